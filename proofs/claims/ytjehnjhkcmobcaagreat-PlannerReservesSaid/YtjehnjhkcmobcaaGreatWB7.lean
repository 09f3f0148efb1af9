/- Texts of this proof, one after the other; no conditions. -/
import Derived.Maps.RangeRun
import Derived.Lib.RowBridge
import Derived.Test.YtjehnjhkcmobcaaGreatWB6
import Derived.Test.YtjehnjhkcmobcaaGreatWB5
import Derived.Test.YtjehnjhkcmobcaaGreatWB1
import Derived.Test.YtjehnjhkcmobcaaGreatWB4
import Derived.Test.YtjehnjhkcmobcaaGreatWB3
set_option linter.all false
/- Distances found level by level, over all links again and again; the first link that leads nearer; what is reached by n rounds. No program in sight. No conditions. -/
namespace Go.Flow
structure LInv (n t : Nat) (E : Lk → Prop) (D : List Int) (d : Nat) (pre : List Lk) : Prop where
  len : D.length = n
  low : ∀ v, v < n → -1 ≤ D.getD v 0
  hi : ∀ v, v < n → D.getD v 0 ≤ (d : Int) + 1
  at0 : D.getD t 0 = 0
  zero : ∀ v, v < n → D.getD v 0 = 0 → v = t
  step : ∀ v, v < n → 0 < D.getD v 0 → ∃ x, E x ∧ x.f = v ∧ D.getD x.t 0 = D.getD v 0 - 1
  old : ∀ x, E x → 0 ≤ D.getD x.t 0 → D.getD x.t 0 < (d : Int) → 0 ≤ D.getD x.f 0 ∧ D.getD x.f 0 ≤ D.getD x.t 0 + 1
  pre0 : ∀ x ∈ pre, E x → D.getD x.t 0 = (d : Int) → 0 ≤ D.getD x.f 0
section
variable {n t : Nat} {E : Lk → Prop} {D : List Int} {d : Nat}
theorem LInv.start (ht : t < n) : LInv n t E ((List.replicate n (-1)).set t 0) 0 [] ∧ ∀ v, v < n → ((List.replicate n (-1 : Int)).set t 0).getD v 0 ≤ ((0 : Nat) : Int) := by
  have hg : ∀ v, v < n → ((List.replicate n (-1 : Int)).set t 0).getD v 0 = if t = v then 0 else -1 := fun v hv => by
    rw [getD_set (by simpa using ht)]
    split
    · rfl
    · exact getD_rep hv _
  have hlt : ∀ v, v < n → ((List.replicate n (-1 : Int)).set t 0).getD v 0 ≤ 0 := fun v hv => by rw [hg v hv]; split <;> omega
  refine ⟨⟨by simp, fun v hv => by rw [hg v hv]; split <;> omega, fun v hv => by have := hlt v hv; omega, by rw [hg t ht]; simp, fun v hv h => ?_, fun v hv h => by have := hlt v hv; omega, fun x _ h1 h2 => by omega, by simp⟩, hlt⟩
  rw [hg v hv] at h
  split at h
  · rename_i e; exact e.symm
  · omega
theorem LInv.skip {pre : List Lk} {x : Lk} (h : LInv n t E D d pre) (hx : E x → D.getD x.t 0 = (d : Int) → 0 ≤ D.getD x.f 0) : LInv n t E D d (pre ++ [x]) :=
  ⟨h.len, h.low, h.hi, h.at0, h.zero, h.step, h.old, fun y hy => by
    rcases List.mem_append.1 hy with hy | hy
    · exact h.pre0 y hy
    · rw [List.mem_singleton.1 hy]; exact hx⟩
theorem LInv.mark {pre : List Lk} {x : Lk} (h : LInv n t E D d pre) (hE : E x) (hxf : x.f < n) (hd : D.getD x.t 0 = (d : Int)) (hneg : D.getD x.f 0 = -1) : LInv n t E (D.set x.f ((d : Int) + 1)) d (pre ++ [x]) := by
  have hl : x.f < D.length := by rw [h.len]; exact hxf
  have hg : ∀ v, (D.set x.f ((d : Int) + 1)).getD v 0 = if x.f = v then (d : Int) + 1 else D.getD v 0 := fun v => getD_set hl
  have hne : x.f ≠ x.t := fun e => by rw [e] at hneg; omega
  have htf : x.f ≠ t := fun e => by rw [e, h.at0] at hneg; omega
  refine ⟨by simp [h.len], fun v hv => ?_, fun v hv => ?_, ?_, fun v hv h0 => ?_, fun v hv h0 => ?_, fun y hy h1 h2 => ?_, fun y hy hyE h1 => ?_⟩
  · rw [hg]; have := h.low v hv; split <;> omega
  · rw [hg]; have := h.hi v hv; split <;> omega
  · rw [hg, if_neg htf]; exact h.at0
  · rw [hg] at h0
    split at h0
    · omega
    · exact h.zero v hv h0
  · rw [hg] at h0 ⊢
    split at h0
    · rename_i e
      refine ⟨x, hE, e, ?_⟩;rw [if_pos e, hg, if_neg hne, hd]; omega
    · rename_i e
      obtain ⟨y, hy, hyf, hyt⟩ := h.step v hv h0
      refine ⟨y, hy, hyf, ?_⟩;rw [if_neg e, hg]
      split
      · rename_i e2; rw [← e2, hneg] at hyt; omega
      · exact hyt
  · rw [hg] at h1 h2 ⊢
    split at h1
    · rename_i e; rw [if_pos e] at h2; omega
    · rename_i e
      rw [if_neg e] at h2
      have := h.old y hy h1 h2
      rw [hg y.t, if_neg e]
      split
      · rename_i e2; rw [← e2, hneg] at this; omega
      · exact this
  · rw [hg] at h1 ⊢
    split
    · omega
    · rename_i e
      split at h1
      · omega
      · rcases List.mem_append.1 hy with hy | hy
        · exact h.pre0 y hy hyE h1
        · rw [List.mem_singleton.1 hy] at e; exact absurd rfl e
theorem LInv.next {ls : List Lk} {pre : List Lk} (hsub : ∀ x, E x → x ∈ ls) (hE : ∀ x, E x → x.f < n ∧ x.t < n) (hp : ∀ x ∈ ls, x ∈ pre) (h : LInv n t E D d pre) : LInv n t E D (d + 1) [] :=
  ⟨h.len, h.low, fun v hv => by have := h.hi v hv; omega, h.at0, h.zero, h.step, fun x hx h1 h2 => by
    by_cases e : D.getD x.t 0 = (d : Int)
    · have := h.pre0 x (hp x (hsub x hx)) hx e
      have := h.hi x.f (hE x hx).1
      omega
    · exact h.old x hx h1 (by omega), by simp⟩
theorem LInv.dist (hE : ∀ x, E x → x.f < n ∧ x.t < n) (h : LInv n t E D (d + 1) []) (hno : ∀ v, v < n → D.getD v 0 ≤ (d : Int)) : IsDist n t E D :=
  ⟨h.len, h.low, h.at0, h.zero, fun x hx h1 => h.old x hx h1 (by have := hno x.t (hE x hx).2; omega), h.step⟩
end
def rmin (rm : Nat → Int) : List Lk → Int
  | [] => 0
  | x :: p => p.foldl (fun m y => if rm y.k < m then rm y.k else m) (rm x.k)
theorem rmin_snoc (rm : Nat → Int) (p : List Lk) (x : Lk) : rmin rm (p ++ [x]) = if p = [] ∨ rm x.k < rmin rm p then rm x.k else rmin rm p := by
  cases p with
  | nil => simp [rmin]
  | cons y p => simp [rmin]
theorem rmin_least (rm : Nat → Int) (p : List Lk) (hp : p ≠ []) (hb : ∀ x ∈ p, rm x.k ≤ 1099511627776) : rmin rm p = leastR rm p := by
  cases p with
  | nil => exact absurd rfl hp
  | cons x p =>
    simp only [rmin, leastR, List.foldl_cons]
    have h0 : min 1099511627776 (rm x.k) = rm x.k := by have := hb x (by simp); omega
    rw [h0];clear hb hp h0
    generalize rm x.k = m
    induction p generalizing m with
    | nil => rfl
    | cons y p ih =>
      simp only [List.foldl_cons]
      rw [show (if rm y.k < m then rm y.k else m) = min m (rm y.k) from by split <;> omega]
      exact ih _
def atPl (ls : List Lk) : Prop := ∀ (i : Nat) (x : Lk), ls[i]? = some x → x.k = i
theorem rlinks_at (l : List Arc) : atPl (rlinks l) := fun i x hx => by
  have hlt : i < (rlinks l).length := (List.getElem?_eq_some_iff.1 hx).1
  rw [rlinks_len] at hlt
  obtain ⟨y, hy, e⟩ := rlinks_get hlt
  rw [hx] at hy
  obtain rfl := Option.some.inj hy
  exact e
theorem plinks_at (l : List Arc) : atPl (plinks l) := fun i x hx => by
  rw [plinks_get, Option.map_eq_some_iff] at hx
  obtain ⟨a, _, rfl⟩ := hx
  rfl
inductive RchN (E : Lk → Prop) (s : Nat) : Nat → Nat → Prop
  | refl {k : Nat} : RchN E s k s
  | step {k : Nat} {x : Lk} : RchN E s k x.f → E x → RchN E s (k + 1) x.t
theorem RchN.mono {E : Lk → Prop} {s k m v : Nat} (h : RchN E s k v) (hk : k ≤ m) : RchN E s m v := by
  induction h generalizing m with
  | refl => exact .refl
  | step _ hx ih =>
    obtain ⟨m', rfl⟩ : ∃ m', m = m' + 1 := ⟨m - 1, by omega⟩
    exact .step (ih (by omega)) hx
structure KInv (n s : Nat) (E : Lk → Prop) (B : List Bool) (r : Nat) (pre : List Lk) : Prop where
  len : B.length = n
  snd : ∀ v, v < n → bget B v = true → Rch E s v
  cmp : ∀ v, v < n → RchN E s r v → bget B v = true
  pre0 : ∀ x ∈ pre, E x → RchN E s r x.f → bget B x.t = true
section
variable {n s : Nat} {E : Lk → Prop} {B : List Bool} {r : Nat}
theorem KInv.start (hs : s < n) : KInv n s E ((List.replicate n false).set s true) 0 [] := by
  have hl : s < (List.replicate n false).length := by simpa using hs
  refine ⟨by simp, fun v _ h => ?_, fun v hv h => ?_, by simp⟩
  · rw [bget_set hl, bget_rep] at h
    split at h
    · rename_i e; rw [← e]; exact .refl
    · simp at h
  · cases h with
    | refl => rw [bget_set hl]; simp
theorem KInv.skip {pre : List Lk} {x : Lk} (h : KInv n s E B r pre) (hx : E x → bget B x.f = false) (hE : ∀ x, E x → x.f < n ∧ x.t < n) : KInv n s E B r (pre ++ [x]) :=
  ⟨h.len, h.snd, h.cmp, fun y hy hyE hr => by
    rcases List.mem_append.1 hy with hy | hy
    · exact h.pre0 y hy hyE hr
    · rw [List.mem_singleton.1 hy] at hyE hr ⊢
      have := h.cmp x.f (hE x hyE).1 hr
      rw [hx hyE] at this; simp at this⟩
theorem KInv.mark {pre : List Lk} {x : Lk} (h : KInv n s E B r pre) (hx : E x) (hxt : x.t < n) (hxf : x.f < n) (hb : bget B x.f = true) : KInv n s E (B.set x.t true) r (pre ++ [x]) := by
  have hl : x.t < B.length := by rw [h.len]; exact hxt
  have hg : ∀ u, bget B u = true → bget (B.set x.t true) u = true := fun u hu => by rw [bget_set hl]; split <;> simp [hu]
  refine ⟨by simp [h.len], fun v hv hv2 => ?_, fun v hv hr => hg v (h.cmp v hv hr), fun y hy hyE hr => ?_⟩
  · rw [bget_set hl] at hv2
    split at hv2
    · rename_i e; rw [← e]; exact .step (h.snd x.f hxf hb) hx
    · exact h.snd v hv hv2
  · rcases List.mem_append.1 hy with hy | hy
    · exact hg _ (h.pre0 y hy hyE hr)
    · rw [List.mem_singleton.1 hy, bget_set hl]; simp
theorem KInv.next {ls pre : List Lk} (hsub : ∀ x, E x → x ∈ ls) (hp : ∀ x ∈ ls, x ∈ pre) (hs : s < n) (h : KInv n s E B r pre) : KInv n s E B (r + 1) [] :=
  ⟨h.len, h.snd, fun v hv hr => by
    cases hr with
    | refl => exact h.cmp s hs .refl
    | @step _ x hr hx => exact h.pre0 x (hp x (hsub x hx)) hx hr, by simp⟩
end
theorem pigeon : ∀ (n : Nat) (f : List Nat), f.Nodup → (∀ v ∈ f, v < n) → f.length ≤ n
  | 0, f, _, h => by
    cases f with
    | nil => simp
    | cons a f => exact absurd (h a (by simp)) (by omega)
  | n + 1, f, hn, h => by
    have h1 := pigeon n (f.erase n) (hn.erase n) (fun v hv => by
      have h2 := (hn.mem_erase_iff).1 hv
      have := h v h2.2
      have := h2.1
      omega)
    rw [List.length_erase] at h1
    split at h1 <;> omega
theorem rchN_of {n s : Nat} {E : Lk → Prop} (hE : ∀ x, E x → x.f < n ∧ x.t < n) (hs : s < n) {v : Nat} (h : Rch E s v) : RchN E s n v := by
  -- the sets of what is reached by k links grow, or stay for ever
  let S : Nat → Nat → Prop := fun k v => RchN E s k v
  have key : ∀ k, (∀ v, S (k + 1) v → S k v) ∨ ∃ f : List Nat, f.length = k + 2 ∧ f.Nodup ∧ ∀ v ∈ f, v < n ∧ S (k + 1) v := by
    intro k
    induction k with
    | zero =>
      by_cases hc : ∀ v, S 1 v → S 0 v
      · exact .inl hc
      · right
        simp only [Classical.not_forall] at hc
        obtain ⟨v, h1, h2⟩ := hc
        have hvn : v < n := by cases h1 with
          | refl => exact hs
          | step _ hx => exact (hE _ hx).2
        refine ⟨[v, s], rfl, ?_, ?_⟩
        · simp only [List.nodup_cons, List.mem_singleton, List.not_mem_nil, not_false_eq_true, List.nodup_nil, and_true]
          rintro rfl;exact h2 .refl
        · intro u hu
          simp at hu
          rcases hu with rfl | rfl
          · exact ⟨hvn, h1⟩
          · exact ⟨hs, .refl⟩
    | succ k ih =>
      by_cases hc : ∀ v, S (k + 2) v → S (k + 1) v
      · exact .inl hc
      · rcases ih with ih | ⟨f, f1, f2, f3⟩
        · -- nothing new came before: nothing new can come
          exfalso
          apply hc
          intro v hv
          cases hv with
          | refl => exact .refl
          | step hr hx => exact .step (ih _ hr) hx
        · right
          simp only [Classical.not_forall] at hc
          obtain ⟨v, h1, h2⟩ := hc
          have hvn : v < n := by cases h1 with
            | refl => exact hs
            | step _ hx => exact (hE _ hx).2
          refine ⟨v :: f, by simp [f1], List.nodup_cons.2 ⟨fun hm => h2 (f3 v hm).2, f2⟩, ?_⟩
          intro u hu
          simp at hu
          rcases hu with rfl | hu
          · exact ⟨hvn, h1⟩
          · exact ⟨(f3 u hu).1, (f3 u hu).2.mono (by omega)⟩
  have hcl : ∀ v, S (n + 1) v → S n v := by
    rcases key n with h | ⟨f, f1, f2, f3⟩
    · exact h
    · exfalso
      have : f.length ≤ n := pigeon n f f2 (fun v hv => (f3 v hv).1)
      omega
  induction h with
  | refl => exact .refl
  | step _ hx ih => exact hcl _ (.step ih hx)
theorem KInv.reach {n s : Nat} {E : Lk → Prop} {B : List Bool} (hE : ∀ x, E x → x.f < n ∧ x.t < n) (hs : s < n) (h : KInv n s E B n []) : IsReach n E s (bget B) :=
  fun v hv => ⟨h.snd v hv, fun hr => h.cmp v hv (rchN_of hE hs hr)⟩
end Go.Flow
namespace Go.Flow
/-! ### the laws -/
section
variable {n s t:Int} {l:List Arc}
theorem value_flw {F:List Int} {v:Int} (h:valueSpec n l F s t=(v,0)):∃ n' s' t':Nat,Good n l s t n' s' t'∧Flw n' l s' t' F∧v=fval s l F:=by
  unfold valueSpec at h
  split at h
  · rename_i h1; simp only [Prod.mk.injEq] at h; exact absurd h.2 h1
  · rename_i h1
    split at h
    · simp at h
    · rename_i h2
      split at h
      · simp at h
      · rename_i h3
        split at h
        · simp at h
        · rename_i h4
          split at h
          · simp at h
          · rename_i h5
            simp only [Prod.mk.injEq,and_true] at h
            have hm:maxErr n l s t=0:=by
              unfold maxErr
              rw [if_neg h1,if_pos (by simpa using h2)]
            obtain ⟨n',s',t',g⟩:=maxErr_good hm
            obtain ⟨rfl,rfl,rfl⟩:=And.intro g.en (And.intro g.es g.et)
            refine ⟨n',s',t',g,⟨by omega,by simpa using h4,fun v hv g1 g2=>?_⟩,h.symm⟩
            simp only [Bool.not_eq_false] at h5;unfold balanced at h5;rw [List.all_eq_true] at h5
            have:=h5 v (by simpa using hv)
            rw [decide_eq_true_eq] at this
            rcases this with h|h|h
            · exact absurd (by omega) g1
            · exact absurd (by omega) g2
            · exact h
theorem side_chk (B:List Bool) (n:Nat):∀ (k:Nat),k≤n→∀ (r:List Int) (p:Option Int),(∀ q,p=some q→∃ m:Nat,q=m∧m<k)→sideChk n p (((List.range' k (n-k)).filter (fun v=>bget B v)).map (fun (v:Nat)=>(v:Int)))=0:=by
  intro k hk r p hp
  generalize hd:n-k=d
  induction d generalizing k p with
  | zero=>simp [sideChk]
  | succ d ih =>
    rw [List.range'_succ,List.filter_cons]
    split
    · simp only [List.map_cons,sideChk]
      rw [if_neg (by omega),if_neg]
      · exact ih (k+1) (by omega) _ (fun q hq=>⟨k,by simpa using hq.symm,by omega⟩) (by omega)
      · cases p with
        | none=>simp
        | some q =>
          obtain ⟨m,rfl,hm⟩:=hp q rfl
          simp; omega
    · exact ih (k+1) (by omega) _ (fun q hq=>by obtain ⟨m,h1,h2⟩:=hp q hq; exact ⟨m,h1,by omega⟩) (by omega)
theorem sideOf_chk (B:List Bool) (n:Nat):sideChk n none (sideOf B n)=0:=by
  have:=side_chk B n 0 (by omega) [] none (by simp)
  rw [Nat.sub_zero,← List.range_eq_range'] at this;exact this
theorem side_capacity {n' s' t':Nat} {B:List Bool} (g:Good n l s t n' s' t') (hB:B.length=n'∨True):capacitySpec n l (sideOf B n')=(capOf (bget B) l,0):=by
  obtain ⟨rfl,rfl,rfl⟩:=And.intro g.en (And.intro g.es g.et)
  unfold capacitySpec
  rw [if_neg (by rw [g.chk]; simp),if_neg (by rw [sideOf_chk]; simp)]
  congr 1
  apply capOf_congr (n:=n') _ l g.ok
  intro v hv
  cases hb:bget B v with
  | true=>rw [decide_eq_true (mem_sideOf.2 ⟨v,rfl,hv,hb⟩)]
  | false =>
    apply decide_eq_false
    intro hm
    obtain ⟨u,h1,_,h3⟩:=mem_sideOf.1 hm
    have:u=v:=by omega
    subst this;rw [hb] at h3; simp at h3
end
end Go.Flow
namespace Go.Step
open Go.Flow (MaxOK CutOK maxErr okEnds_iff run_cut RunR capacitySpec sideOf bget mem_sideOf sideOf_chk sideOf_len fval)
variable {qs:List Int} {cs:List Ct} {bs:List Bk} {hs:List Hd} {d:Dm}
def CutN (qs:List Int) (cs:List Ct) (bs:List Bk) (hs:List Hd) (d:Dm) (side:List Int) (c e:Int):Prop:=CutOK (vsN qs d) (arcsG qs cs bs hs d) (vtx d d.s d.r) (vtx d d.d d.e) side c e
theorem cut_facts (h:VOk qs cs bs hs d) (hv:validT qs cs bs hs d=true) {F side:List Int} {m e c e':Int} (hm:MaxN qs cs bs hs d F m e) (hc:CutN qs cs bs hs d side c e') :
    e'=0∧c=m∧sidesE qs cs bs hs d side=0∧vtx d d.s d.r∈side∧vtx d d.d d.e∉side∧side.length≤1616:=by
  have hends:=okEnds_iff.1 h.ends
  have hvs:=h.vs
  have hchk:=h.chk
  obtain ⟨N,hN⟩:∃ N:Nat,vsN qs d=N:=⟨(vsN qs d).toNat,by omega⟩
  obtain ⟨S,hS⟩:∃ N:Nat,vtx d d.s d.r=N:=⟨(vtx d d.s d.r).toNat,by omega⟩
  obtain ⟨T,hT⟩:∃ N:Nat,vtx d d.d d.e=N:=⟨(vtx d d.d d.e).toNat,by omega⟩
  have hok:=h.ok
  unfold MaxN at hm;unfold CutN at hc
  have he:=max_err h
  rw [hN] at hok hchk hvs;rw [hN,hS,hT] at hm hends he hc
  rcases hm with ⟨a1,_⟩|⟨_,a2,a3,a4⟩
  · exact absurd he a1
  rcases hc with ⟨b1,_⟩|⟨_,b2,F',B,b3,b4,b5,b6⟩
  · exact absurd he b1
  simp only [Int.toNat_natCast] at a3 b3 b4 b5
  obtain ⟨f1,f2,f3,f4⟩:=run_cut hok (by omega) (by omega) (by omega) b3 b4
  have:=b3.uniq hok a3
  subst this
  have hl:=sideOf_len B N
  refine ⟨b2,by rw [b6,← f4,a4],?_,?_,?_,by rw [b5]; omega⟩
  · unfold sidesE
    rw [if_pos hv,hN];unfold capacitySpec
    rw [if_neg (fun h=>h hchk),if_neg (fun h=>h (by rw [b5]; exact sideOf_chk B N))]
  · rw [hS,b5,mem_sideOf]
    exact ⟨S,rfl,by omega,f2⟩
  · rw [hT,b5,mem_sideOf]
    rintro ⟨v,e1,_,e3⟩
    have:v=T:=by omega
    subst this;rw [f3] at e3
    simp at e3
end Go.Step
namespace Go.Flow
end Go.Flow
namespace Go.Flow
def PathsOK (n:Int) (l:List Arc) (fl:List Int) (s t:Int) (ps:List (List Lk × Int)) (e:Int):Prop:=
  ((valueSpec n l fl s t).2≠0∧e=(valueSpec n l fl s t).2∧ps=[]) ∨
  ((valueSpec n l fl s t).2=0∧e=0∧∃ r,RunP n.toNat l s.toNat t.toNat fl ps r)
theorem value_good {n s t:Int} {l:List Arc} {fl:List Int} (h:(valueSpec n l fl s t).2=0):∃ n' s' t':Nat,Good n l s t n' s' t'∧Flw n' l s' t' fl∧(valueSpec n l fl s t).1=fval s l fl:=by
  obtain ⟨n',s',t',g,hF,hv⟩:=value_flw (F:=fl) (v:=(valueSpec n l fl s t).1) (by rw [← h])
  exact ⟨n',s',t',g,hF,hv⟩
theorem PathsOK.uniq {n s t e f:Int} {l:List Arc} {fl:List Int} {ps qs:List (List Lk × Int)} (h1:PathsOK n l fl s t ps e) (h2:PathsOK n l fl s t qs f):ps=qs∧e=f:=by
  rcases h1 with ⟨a1,a2,a3⟩|⟨a1,a2,r1,a3⟩ <;> rcases h2 with ⟨b1,b2,b3⟩|⟨b1,b2,r2,b3⟩
  · exact ⟨by rw [a3,b3],by rw [a2,b2]⟩
  · exact absurd b1 a1
  · exact absurd a1 b1
  · obtain ⟨n',s',t',g,_,_⟩:=value_good a1
    obtain ⟨rfl,rfl,rfl⟩:=And.intro g.en (And.intro g.es g.et)
    simp only [Int.toNat_natCast] at a3 b3
    exact ⟨(a3.uniq g.ok b3).1,by rw [a2,b2]⟩
end Go.Flow
namespace Go.Flow
/-! ### each path uses up an arc -/
def npos (l:List Int):Nat:=l.countP (fun x=>decide (0<x))
theorem npos_le:∀ (a b:List Int),a.length=b.length→(∀ k:Nat,b.getD k 0≤a.getD k 0)→npos b≤npos a
  | [],[],_,_=>Nat.le_refl _
  | x::a,y::b,hl,h=>by
    have ih:=npos_le a b (by simpa using hl) (fun k=>by simpa using h (k+1))
    have h0:=h 0
    simp only [List.getD_cons_zero] at h0;unfold npos at ih ⊢;simp only [List.countP_cons]
    by_cases h1:0<y
    · rw [if_pos (by simpa using h1),if_pos (by simp; omega)]; omega
    · rw [if_neg (by simpa using h1)]; omega
theorem npos_lt:∀ (a b:List Int),a.length=b.length→(∀ k:Nat,b.getD k 0≤a.getD k 0)→∀ j:Nat,0<a.getD j 0→b.getD j 0≤0→npos b+1≤npos a
  | [],[],_,_,j,h1,_=>by simp at h1
  | x::a,y::b,hl,h,0,h1,h2=>by
    have ih:=npos_le a b (by simpa using hl) (fun k=>by simpa using h (k+1))
    simp only [List.getD_cons_zero] at h1 h2;unfold npos at ih ⊢;simp only [List.countP_cons]
    rw [if_neg (by simp; omega),if_pos (by simpa using h1)]; omega
  | x::a,y::b,hl,h,j+1,h1,h2=>by
    have ih:=npos_lt a b (by simpa using hl) (fun k=>by simpa using h (k+1)) j (by simpa using h1) (by simpa using h2)
    have h0:=h 0
    simp only [List.getD_cons_zero] at h0;unfold npos at ih ⊢;simp only [List.countP_cons]
    by_cases h3:0<y
    · rw [if_pos (by simpa using h3),if_pos (by simp; omega)]; omega
    · rw [if_neg (by simpa using h3)]; omega
theorem subP_le {room:Int} (h0:0≤room) (rest:List Int) (x:Lk) (k:Nat):(subP room rest x).getD k 0≤rest.getD k 0:=by
  unfold subP
  by_cases e:x.k=k
  · subst e
    by_cases hl:x.k<rest.length
    · rw [getD_set hl,if_pos rfl]; omega
    · rw [List.set_eq_of_length_le (by omega)]; exact Int.le_refl _
  · rw [getD_set' e]; exact Int.le_refl _
theorem subAll_le {room:Int} (h0:0≤room):∀ (p:List Lk) (rest:List Int) (k:Nat),(subAll room rest p).getD k 0≤rest.getD k 0
  | [],rest,k=>Int.le_refl _
  | x::p,rest,k=>Int.le_trans (subAll_le h0 p (subP room rest x) k) (subP_le h0 rest x k)
theorem subAll_used {room:Int} (h0:0≤room):∀ (p:List Lk) (rest:List Int) (x:Lk),x∈p→x.k<rest.length→(subAll room rest p).getD x.k 0≤rest.getD x.k 0-room
  | [],rest,x,hx,_=>by simp at hx
  | y::p,rest,x,hx,hl=>by
    simp at hx
    rcases hx with rfl|hx
    · refine Int.le_trans (subAll_le h0 p (subP room rest x) x.k) ?_
      unfold subP;rw [getD_set hl,if_pos rfl]; exact Int.le_refl _
    · have:=subAll_used h0 p (subP room rest y) x hx (by rw [subP_len]; exact hl)
      have:=subP_le h0 rest y x.k
      show (subAll room (subP room rest y) p).getD x.k 0≤_
      omega
theorem least_attained (rm:Nat→Int):∀ (p:List Lk) (m:Int),p.foldl (fun m x=>min m (rm x.k)) m=m∨∃ x∈p,rm x.k=p.foldl (fun m x=>min m (rm x.k)) m
  | [],m=>.inl rfl
  | y::p,m=>by
    simp only [List.foldl_cons]
    rcases least_attained rm p (min m (rm y.k)) with h|⟨x,hx,h⟩
    · rw [h]
      by_cases hc:m≤rm y.k
      · left; omega
      · right; exact ⟨y,by simp,by omega⟩
    · right; exact ⟨x,by simp [hx],h⟩
theorem pNext_pos {n s t:Nat} {l:List Arc} (hok:∀ a∈l,okArc n a=true) (hs:s<n) (hst:s≠t) {fl D:List Int} (hf:Flw n l s t fl) (hD:IsDist n t (pE l fl) D) (h0:0≤D.getD s 0):npos (pNext l fl D s)+1≤npos fl:=by
  obtain ⟨k,hk⟩:=Int.eq_ofNat_of_zero_le h0
  have hch:=path_chn (pl_lt hok) hD k s hs hk
  have hlen:(pP l fl D s).length=k:=path_len (pl_lt hok) hD k s hs hk
  have hpos:=(pNext_ok hok hs hst hf hD h0).2.1
  have hk0:k≠0:=fun e=>by
    subst e
    exact hst (hD.zero s hs (by omega))
  have hatt:∃ x∈pP l fl D s,rmP fl x.k=pRoom l fl D s:=by
    rcases least_attained (rmP fl) (pP l fl D s) 1099511627776 with h|h
    · have hne:pP l fl D s≠[]:=fun e=>by rw [e] at hlen; simp at hlen; omega
      obtain ⟨x,p,hxp⟩:=List.exists_cons_of_ne_nil hne
      refine ⟨x,by rw [hxp]; simp,?_⟩
      have hle:=(leastR_le (rmP fl) (pP l fl D s) 1099511627776).2 x (by rw [hxp]; simp)
      have hxP:x∈pP l fl D s:=by rw [hxp]; simp
      have hxm:=(hch.all x hxP).1.1
      obtain ⟨j,a,ha,rfl⟩:=plinks_iff.1 hxm
      have hjl:j<l.length:=(List.getElem?_eq_some_iff.1 ha).1
      have hfj:fl[j]?=some (fl.getD j 0):=by have:=hf.len; simp [List.getD_eq_getElem?_getD,show j<fl.length by omega]
      have hin:=inCap_get l fl hf.cap j a _ ha hfj
      have hka:=okArc_iff.1 (hok a (List.mem_of_getElem? ha))
      show fl.getD j 0=_
      have h9:pRoom l fl D s=1099511627776:=h
      have h10:pRoom l fl D s≤fl.getD j 0:=hle
      omega
    · exact h
  obtain ⟨x,hx,hxr⟩:=hatt
  have hxk:x.k<fl.length:=by rw [← hf.len]; exact pl_k (hch.all x hx).1.1
  refine npos_lt fl _ (by rw [subAll_len]) (fun k=>subAll_le (Int.le_of_lt hpos) _ _ k) x.k ?_ ?_
  · have h2:fl.getD x.k 0=pRoom l fl D s:=hxr
    rw [h2]; exact hpos
  · have h1:=subAll_used (Int.le_of_lt hpos) (pP l fl D s) fl x hx hxk
    have h2:fl.getD x.k 0=pRoom l fl D s:=hxr
    rw [h2,Int.sub_self] at h1;exact h1
theorem npos_len (l:List Int):npos l≤l.length:=List.countP_le_length
end Go.Flow
namespace Go.Flow
theorem RunP.small {n s t:Nat} {l:List Arc} (hok:∀ a∈l,okArc n a=true) (hs:s<n) (ht:t<n) (hst:s≠t) {fl r:List Int} {ps:List (List Lk × Int)} (h:RunP n l s t fl ps r):Flw n l s t fl→ps.length≤npos fl∧∀ p∈ps,p.1.length≤n:=by
  induction h with
  | done=>intro _; simp
  | @step fl D r ps hD h0 _ ih =>
    intro hf
    obtain ⟨hN1,_,_⟩:=pNext_ok hok hs hst hf hD h0
    have hp:=pNext_pos hok hs hst hf hD h0
    obtain ⟨i1,i2⟩:=ih hN1
    refine ⟨by simp only [List.length_cons]; omega,fun p hp=>?_⟩
    simp at hp
    rcases hp with rfl|hp
    · obtain ⟨k,hk⟩:=Int.eq_ofNat_of_zero_le h0
      have h3:(pP l fl D s).length=k:=path_len (pl_lt hok) hD k s hs hk
      have h2:=hD.lt (fun x hx=>pl_lt hok x hx.1) ht hs
      dsimp only
      omega
    · exact i2 p hp
theorem paths_small {n s t e:Int} {l:List Arc} {fl:List Int} {ps:List (List Lk × Int)} (h:PathsOK n l fl s t ps e):ps.length≤20000∧∀ p∈ps,p.1.length≤2000:=by
  rcases h with ⟨_,_,rfl⟩|⟨a1,_,r,a3⟩
  · simp
  · obtain ⟨n',s',t',g,hF,_⟩:=value_good a1
    obtain ⟨rfl,rfl,rfl⟩:=And.intro g.en (And.intro g.es g.et)
    simp only [Int.toNat_natCast] at a3
    obtain ⟨h1,h2⟩:=a3.small g.ok g.sn g.tn g.ne hF
    have:=npos_len fl
    have:=hF.len
    have:=g.l2
    have:=g.n2
    exact ⟨by omega,fun p hp=>by have:=h2 p hp; omega⟩
end Go.Flow
namespace Go.Flow
def addP (m:Int) (part:List Int) (x:Lk):List Int:=part.set x.k (part.getD x.k 0+m)
def addAll (m:Int) (part:List Int) (p:List Lk):List Int:=p.foldl (addP m) part
def addMany (qs:List (List Lk × Int)) (part:List Int):List Int:=qs.foldl (fun part q=>addAll q.2 part q.1) part
def quotaL:List (List Lk × Int)→Int→List (List Lk × Int)
  | [],_=>[]
  | p::ps,v=>(p.1,min v p.2)::quotaL ps (v-min v p.2)
def neededL:List (List Lk × Int)→Int→List (List Lk × Int)
  | [],_=>[]
  | p::ps,v=>if v=0 then [] else (p.1,min p.2 v)::neededL ps (v-min p.2 v)
def restV:List (List Lk × Int)→Int→Int
  | [],v=>v
  | p::ps,v=>restV ps (v-min v p.2)
theorem addP_len (m:Int) (part:List Int) (x:Lk):(addP m part x).length=part.length:=by simp [addP]
theorem addAll_len (m:Int):∀ (p:List Lk) (part:List Int),(addAll m part p).length=part.length
  | [],_=>rfl
  | x::p,part=>by
    show (addAll m (addP m part x) p).length=_
    rw [addAll_len m p,addP_len]
theorem addMany_len:∀ (qs:List (List Lk × Int)) (part:List Int),(addMany qs part).length=part.length
  | [],_=>rfl
  | q::qs,part=>by
    show (addMany qs (addAll q.2 part q.1)).length=_
    rw [addMany_len qs,addAll_len]
theorem addAll_snoc (m:Int) (part:List Int) (p:List Lk) (x:Lk):addAll m part (p ++ [x])=addP m (addAll m part p) x:=by simp [addAll]
theorem addMany_snoc (part:List Int) (qs:List (List Lk × Int)) (q:List Lk × Int):addMany (qs ++ [q]) part=addAll q.2 (addMany qs part) q.1:=by simp [addMany]
theorem quotaL_len:∀ (ps:List (List Lk × Int)) (v:Int),(quotaL ps v).length=ps.length
  | [],_=>rfl
  | p::ps,v=>by simp [quotaL,quotaL_len ps]
theorem quotaL_get:∀ (ps:List (List Lk × Int)) (v:Int) (j:Nat),(quotaL ps v)[j]?=(ps[j]?).map (fun p=>(p.1,min (restV (ps.take j) v) p.2))
  | [],_,_=>by simp [quotaL]
  | p::ps,v,0=>by simp [quotaL,restV]
  | p::ps,v,j+1=>by
    simp only [quotaL,List.getElem?_cons_succ,List.take_succ_cons,restV];exact quotaL_get ps _ j
theorem restV_snoc:∀ (ps:List (List Lk × Int)) (v:Int) (p:List Lk × Int),restV (ps ++ [p]) v=restV ps v-min (restV ps v) p.2
  | [],v,p=>rfl
  | q::ps,v,p=>by simp only [List.cons_append,restV]; exact restV_snoc ps _ p
theorem restV_bd:∀ (ps:List (List Lk × Int)) (v:Int),0≤v→(∀ p∈ps,0≤p.2)→0≤restV ps v∧restV ps v≤v
  | [],v,h,_=>⟨h,Int.le_refl _⟩
  | p::ps,v,h,hp=>by
    have h1:=hp p (by simp)
    have h2:=restV_bd ps (v-min v p.2) (by omega) (fun q hq=>hp q (by simp [hq]))
    simp only [restV];omega
theorem addP_zero (part:List Int) (x:Lk):addP 0 part x=part:=by
  unfold addP;rw [Int.add_zero]
  by_cases h:x.k<part.length
  · apply List.ext_getElem?
    intro i
    rw [List.getElem?_set]
    split
    · rename_i e
      subst e
      simp [List.getD_eq_getElem?_getD,h]
    · rfl
  · rw [List.set_eq_of_length_le (by omega)]
theorem addAll_zero:∀ (p:List Lk) (part:List Int),addAll 0 part p=part
  | [],_=>rfl
  | x::p,part=>by
    show addAll 0 (addP 0 part x) p=_
    rw [addP_zero,addAll_zero p]
theorem quota_zero:∀ (ps:List (List Lk × Int)),(∀ p∈ps,0≤p.2)→∀ q∈quotaL ps 0,q.2=0
  | [],_,q,hq=>by simp [quotaL] at hq
  | p::ps,hp,q,hq=>by
    have h1:=hp p (by simp)
    simp only [quotaL,List.mem_cons] at hq
    rcases hq with rfl|hq
    · dsimp only; omega
    · rw [show (0:Int)-min 0 p.2=0 by omega] at hq
      exact quota_zero ps (fun q hq=>hp q (by simp [hq])) q hq
theorem addMany_zero:∀ (qs:List (List Lk × Int)) (part:List Int),(∀ q∈qs,q.2=0)→addMany qs part=part
  | [],_,_=>rfl
  | q::qs,part,h=>by
    show addMany qs (addAll q.2 part q.1)=_
    rw [h q (by simp),addAll_zero,addMany_zero qs part (fun r hr=>h r (by simp [hr]))]
theorem needed_take:∀ (ps:List (List Lk × Int)) (v:Int),neededL ps v=(quotaL ps v).take (neededL ps v).length
  | [],_=>rfl
  | p::ps,v=>by
    unfold neededL
    split
    · rfl
    · rw [List.length_cons,quotaL,List.take_succ_cons,Int.min_comm,← needed_take ps]
theorem needed_sum:∀ (ps:List (List Lk × Int)) (v:Int) (part:List Int),(∀ p∈ps,0≤p.2)→addMany (neededL ps v) part=addMany (quotaL ps v) part
  | [],_,_,_=>rfl
  | p::ps,v,part,h=>by
    unfold neededL
    split
    · rename_i e
      subst e;rw [addMany_zero _ _ (quota_zero _ h)]
      rfl
    · rw [quotaL,Int.min_comm]
      exact needed_sum ps _ _ (fun q hq=>h q (by simp [hq]))
theorem needed_len (ps:List (List Lk × Int)) (v:Int):(neededL ps v).length≤ps.length:=by
  have h:=congrArg List.length (needed_take ps v)
  rw [List.length_take,quotaL_len] at h;omega
theorem RunP.pos {n s t:Nat} {l:List Arc} (hok:∀ a∈l,okArc n a=true) (hs:s<n) (hst:s≠t) {fl r:List Int} {ps:List (List Lk × Int)} (h:RunP n l s t fl ps r):Flw n l s t fl→∀ p∈ps,0<p.2:=by
  induction h with
  | done=>intro _ p hp; simp at hp
  | step hD h0 _ ih =>
    intro hf p hp
    have:=pNext_ok hok hs hst hf hD h0
    simp only [List.mem_cons] at hp
    rcases hp with rfl|hp
    · exact this.2.1
    · exact ih this.1 p hp
theorem add_diff (m:Int) (F:List Int):∀ (p:List Lk) (fl:List Int),F.length=fl.length→(∀ x∈p,x.k<fl.length)→addAll m (diffL F fl) p=diffL F (subAll m fl p)
  | [],_,_,_=>rfl
  | x::p,fl,hl,hp=>by
    have hx:=hp x (by simp)
    show addAll m (addP m (diffL F fl) x) p=diffL F (subAll m (subP m fl x) p)
    have e:addP m (diffL F fl) x=diffL F (subP m fl x):=by
      unfold addP subP
      exact diffL_set m (by omega) hx
    rw [e]
    exact add_diff m F p (subP m fl x) (by rw [subP_len]; exact hl) (fun y hy=>by rw [subP_len]; exact hp y (by simp [hy]))
section
variable {n s t:Nat} {l:List Arc}
theorem path_part (hok:∀ a∈l,okArc n a=true) (hs:s<n) {fl D:List Int} (hf:Flw n l s t fl) (hD:IsDist n t (pE l fl) D) (h0:0≤D.getD s 0) {m:Int} (hm:0≤m) (hm2:m≤pRoom l fl D s) (i:Nat) :
    inCap l (subAll m fl ((pP l fl D s).take i))=true∧(∀ x∈pP l fl D s,x.k<l.length):=by
  obtain ⟨k,hk⟩:=Int.eq_ofNat_of_zero_le h0
  have hch:=path_chn (pl_lt hok) hD k s hs hk
  obtain ⟨w,hw⟩:=hch.take i
  refine ⟨(subAll_ok hok hm (E:=fun x=>pE l fl x∧D.getD x.t 0=D.getD x.f 0-1∧D.getD x.f 0≤k) (fun x hx=>hx.1.1) hw fl hf.len hf.cap ((pP_arcs hok hs hD h0).sublist (List.take_sublist _ _)) (fun x hx=>Int.le_trans hm2 ((leastR_le _ _ _).2 x (List.mem_of_mem_take hx)))).1,fun x hx=>pl_k (hch.all x hx).1.1⟩
theorem path_flw (hok:∀ a∈l,okArc n a=true) (hs:s<n) (hst:s≠t) {fl D:List Int} (hf:Flw n l s t fl) (hD:IsDist n t (pE l fl) D) (h0:0≤D.getD s 0) {m:Int} (hm:0≤m) (hm2:m≤pRoom l fl D s) :
    Flw n l s t (subAll m fl (pP l fl D s))∧fval s l (subAll m fl (pP l fl D s))=fval s l fl-m:=by
  obtain ⟨k,hk⟩:=Int.eq_ofNat_of_zero_le h0
  have hch:=path_chn (pl_lt hok) hD k s hs hk
  obtain ⟨r1,r2⟩:=subAll_ok hok hm (E:=fun x=>pE l fl x∧D.getD x.t 0=D.getD x.f 0-1∧D.getD x.f 0≤k) (fun x hx=>hx.1.1) hch fl hf.len hf.cap (pP_arcs hok hs hD h0) (fun x hx=>Int.le_trans hm2 ((leastR_le _ _ _).2 x hx))
  refine ⟨⟨by rw [subAll_len]; exact hf.len,r1,fun v hv h1 h2=>?_⟩,?_⟩
  · rw [r2 v,if_neg (Ne.symm h1),if_neg (Ne.symm h2),hf.bal v hv h1 h2]; rfl
  · rw [r2 s,if_pos rfl,if_neg (Ne.symm hst)]; omega
theorem quota_mid (hok:∀ a∈l,okArc n a=true) (hs:s<n) (hst:s≠t) {fl r:List Int} {ps:List (List Lk × Int)} (h:RunP n l s t fl ps r):Flw n l s t fl →
    ∀ (F:List Int),F.length=fl.length→(∀ k:Nat,fl.getD k 0≤F.getD k 0)→∀ (v:Int),0≤v→∀ (j i:Nat) (q:List Lk × Int),(quotaL ps v)[j]?=some q →
    ∃ fl',addAll q.2 (addMany ((quotaL ps v).take j) (diffL F fl)) (q.1.take i)=diffL F fl'∧fl'.length=fl.length∧inCap l fl'=true∧(∀ k:Nat,fl'.getD k 0≤F.getD k 0):=by
  induction h with
  | done=>intro _ F _ _ v _ j i q hq; simp [quotaL] at hq
  | @step fl D r ps hD h0 hr ih =>
    intro hf F hl hle v hv j i q hq
    have hpos:=(pNext_ok hok hs hst hf hD h0).2.1
    have hnx:=(pNext_ok hok hs hst hf hD h0).1
    obtain ⟨p1,p2⟩:=path_part hok hs hf hD h0 (m:=min v (pRoom l fl D s)) (by omega) (by omega) i
    have hkl:∀ x∈pP l fl D s,x.k<fl.length:=fun x hx=>by rw [← hf.len]; exact p2 x hx
    cases j with
    | zero =>
      simp only [quotaL,List.getElem?_cons_zero,Option.some.injEq] at hq;subst hq
      refine ⟨subAll (min v (pRoom l fl D s)) fl ((pP l fl D s).take i),?_,subAll_len _ _ _,p1,fun k=>Int.le_trans (subAll_le (by omega) _ _ k) (hle k)⟩
      exact add_diff _ F _ fl hl (fun x hx=>hkl x (List.mem_of_mem_take hx))
    | succ j =>
      simp only [quotaL,List.getElem?_cons_succ] at hq
      have e:addMany ((quotaL ((pP l fl D s,pRoom l fl D s)::ps) v).take (j+1)) (diffL F fl)=addMany ((quotaL ps (v-min v (pRoom l fl D s))).take j) (diffL F (subAll (min v (pRoom l fl D s)) fl (pP l fl D s))):=by
        rw [quotaL,List.take_succ_cons]
        show addMany _ (addAll _ (diffL F fl) _)=_
        rw [add_diff _ F _ fl hl hkl]
      rw [e]
      by_cases hc:pRoom l fl D s≤v
      · rw [show min v (pRoom l fl D s)=pRoom l fl D s by omega] at hq ⊢
        obtain ⟨fl',a,b,c⟩:=ih hnx F (by rw [hl]; exact (subAll_len _ _ _).symm) (fun k=>Int.le_trans (subAll_le (by omega) _ _ k) (hle k)) (v-pRoom l fl D s) (by omega) j i q hq
        exact ⟨fl',a,by rw [b]; exact subAll_len _ _ _,c⟩
      · rw [show min v (pRoom l fl D s)=v by omega,Int.sub_self] at hq ⊢
        have hz:=quota_zero ps (fun p hp=>Int.le_of_lt (hr.pos hok hs hst hnx p hp))
        have hq0:=hz q (List.mem_of_getElem? hq)
        rw [addMany_zero _ _ (fun x hx=>hz x (List.mem_of_mem_take hx)),hq0,addAll_zero]
        obtain ⟨k1,k2⟩:=path_flw hok hs hst hf hD h0 hv (by omega)
        exact ⟨_,rfl,subAll_len _ _ _,k1.cap,fun k=>Int.le_trans (subAll_le hv _ _ k) (hle k)⟩
theorem quota_flow (hok:∀ a∈l,okArc n a=true) (hs:s<n) (ht:t<n) (hst:s≠t) {fl r:List Int} {ps:List (List Lk × Int)} (h:RunP n l s t fl ps r):Flw n l s t fl →
    ∀ (F:List Int),F.length=fl.length→(∀ k:Nat,fl.getD k 0≤F.getD k 0)→∀ (v:Int),0≤v→v≤fval s l fl →
    ∃ fl',addMany (quotaL ps v) (diffL F fl)=diffL F fl'∧Flw n l s t fl'∧(∀ k:Nat,fl'.getD k 0≤F.getD k 0)∧fval s l fl'=fval s l fl-v:=by
  induction h with
  | done hD hn =>
    intro hf F hl hle v hv hv2
    have:=rest_le0 hok hs ht hf hD hn
    exact ⟨_,rfl,hf,hle,by omega⟩
  | @step fl D r ps hD h0 hr ih =>
    intro hf F hl hle v hv hv2
    obtain ⟨hnx,hpos,hval⟩:=pNext_ok hok hs hst hf hD h0
    obtain ⟨p1,p2⟩:=path_part hok hs hf hD h0 (m:=min v (pRoom l fl D s)) (by omega) (by omega) 0
    have hkl:∀ x∈pP l fl D s,x.k<fl.length:=fun x hx=>by rw [← hf.len]; exact p2 x hx
    have e:addMany (quotaL ((pP l fl D s,pRoom l fl D s)::ps) v) (diffL F fl)=addMany (quotaL ps (v-min v (pRoom l fl D s))) (diffL F (subAll (min v (pRoom l fl D s)) fl (pP l fl D s))):=by
      rw [quotaL]
      show addMany _ (addAll _ (diffL F fl) _)=_
      rw [add_diff _ F _ fl hl hkl]
    rw [e]
    by_cases hc:pRoom l fl D s≤v
    · rw [show min v (pRoom l fl D s)=pRoom l fl D s by omega]
      obtain ⟨fl',a,b,c,d⟩:=ih hnx F (by rw [hl]; exact (subAll_len _ _ _).symm) (fun k=>Int.le_trans (subAll_le (by omega) _ _ k) (hle k)) (v-pRoom l fl D s) (by omega) (by omega)
      exact ⟨fl',a,b,c,by omega⟩
    · rw [show min v (pRoom l fl D s)=v by omega,Int.sub_self]
      have hz:=quota_zero ps (fun p hp=>Int.le_of_lt (hr.pos hok hs hst hnx p hp))
      rw [addMany_zero _ _ hz]
      obtain ⟨k1,k2⟩:=path_flw hok hs hst hf hD h0 hv (by omega)
      exact ⟨_,rfl,k1,fun k=>Int.le_trans (subAll_le hv _ _ k) (hle k),k2⟩
theorem inCap_diff:∀ (l:List Arc) (F fl:List Int),F.length=fl.length→inCap l F=true→inCap l fl=true→(∀ k:Nat,fl.getD k 0≤F.getD k 0)→inCap l (diffL F fl)=true
  | [],_,_,_,_,_,_=>by simp [inCap]
  | _::_,[],[],_,_,_,_=>by simp [inCap,diffL]
  | a::l,x::F,y::fl,hl,h1,h2,h3=>by
    simp only [inCap,Bool.and_eq_true,decide_eq_true_eq] at h1 h2
    have k0:=h3 0
    simp only [List.getD_cons_zero] at k0
    have ih:=inCap_diff l F fl (by simpa using hl) h1.2 h2.2 (fun k=>by simpa using h3 (k+1))
    simp only [diffL,List.zipWith_cons_cons,inCap,Bool.and_eq_true,decide_eq_true_eq] at ih ⊢
    exact ⟨by omega,ih⟩
theorem part_flow (hok:∀ a∈l,okArc n a=true) (hs:s<n) (ht:t<n) (hst:s≠t) {F r:List Int} {ps:List (List Lk × Int)} (h:RunP n l s t F ps r) (hF:Flw n l s t F) {v:Int} (hv:0≤v) (hv2:v≤fval s l F) :
    Flw n l s t (addMany (quotaL ps v) (List.replicate l.length 0))∧fval s l (addMany (quotaL ps v) (List.replicate l.length 0))=v:=by
  obtain ⟨fl',a,b,c,d⟩:=quota_flow hok hs ht hst h hF F rfl (fun k=>Int.le_refl _) v hv hv2
  have hl:F.length=fl'.length:=by rw [← hF.len,b.len]
  rw [diffL_self,← hF.len] at a;rw [a]
  refine ⟨⟨by rw [diffL_len hl]; exact hF.len,inCap_diff l F fl' hl hF.cap b.cap c,fun u h1 h2 h3=>?_⟩,?_⟩
  · rw [fval_diff _ _ _ _ hl,hF.bal u h1 h2 h3,b.bal u h1 h2 h3]; rfl
  · rw [fval_diff _ _ _ _ hl,d]; omega
theorem part_mid (hok:∀ a∈l,okArc n a=true) (hs:s<n) (hst:s≠t) {F r:List Int} {ps:List (List Lk × Int)} (h:RunP n l s t F ps r) (hF:Flw n l s t F) {v:Int} (hv:0≤v) {j i:Nat} {q:List Lk × Int} (hq:(quotaL ps v)[j]?=some q) :
    inCap l (addAll q.2 (addMany ((quotaL ps v).take j) (List.replicate l.length 0)) (q.1.take i))=true∧(addAll q.2 (addMany ((quotaL ps v).take j) (List.replicate l.length 0)) (q.1.take i)).length=l.length:=by
  obtain ⟨fl',a,b,c,d⟩:=quota_mid hok hs hst h hF F rfl (fun k=>Int.le_refl _) v hv j i q hq
  rw [diffL_self,← hF.len] at a;rw [a]
  exact ⟨inCap_diff l F fl' b.symm hF.cap c d,by rw [diffL_len b.symm]; exact hF.len.symm⟩
theorem run_arcs (hok:∀ a∈l,okArc n a=true) (hs:s<n) (hst:s≠t) {F r:List Int} {ps:List (List Lk × Int)} (h:RunP n l s t F ps r):Flw n l s t F→∀ p∈ps,∀ x∈p.1,x.k<l.length:=by
  induction h with
  | done=>intro _ p hp; simp at hp
  | step hD h0 _ ih =>
    intro hf p hp
    simp only [List.mem_cons] at hp
    rcases hp with rfl|hp
    · exact (path_part hok hs hf hD h0 (m:=0) (Int.le_refl _) (Int.le_of_lt (pNext_ok hok hs hst hf hD h0).2.1) 0).2
    · exact ih (pNext_ok hok hs hst hf hD h0).1 p hp
end
end Go.Flow
namespace Go.Step
open Go.Flow (MaxOK PathsOK Flw fval addMany quotaL RunP okEnds_iff)
abbrev PathL:=List (List Go.Flow.Lk × Int)
def partF (qs:List Int) (cs:List Ct) (bs:List Bk) (hs:List Hd) (d:Dm) (ps:PathL):List Int:=addMany (quotaL ps d.v) (List.replicate (arcsG qs cs bs hs d).length 0)
def PathN (qs:List Int) (cs:List Ct) (bs:List Bk) (hs:List Hd) (d:Dm) (F:List Int) (ps:PathL) (e:Int):Prop:=PathsOK (vsN qs d) (arcsG qs cs bs hs d) F (vtx d d.s d.r) (vtx d d.d d.e) ps e
def PlanOK (qs:List Int) (cs:List Ct) (bs:List Bk) (hs:List Hd) (d:Dm) (acc:Bool) (vol:Int) (ss:List Sh) (c:Cu):Prop:=
  ∃ F m,MaxN qs cs bs hs d F m 0∧((m<d.v∧acc=false∧vol=m∧ss=[]∧∃ side k,CutN qs cs bs hs d side k 0∧c=sidesC d qs.length side) ∨
    (d.v≤m∧acc=true∧vol=d.v∧c=[]∧∃ ps,PathN qs cs bs hs d F ps 0∧ss=shipsF (arcsE qs cs bs hs d) (partF qs cs bs hs d ps)))
variable {qs:List Int} {cs:List Ct} {bs:List Bk} {hs:List Hd} {d:Dm}
theorem MaxN.uniq {F G:List Int} {m k e f:Int} (h1:MaxN qs cs bs hs d F m e) (h2:MaxN qs cs bs hs d G k f):F=G∧m=k∧e=f:=MaxOK.uniq h1 h2
theorem PlanOK.uniq {acc acc':Bool} {vol vol':Int} {ss ss':List Sh} {c c':Cu} (h1:PlanOK qs cs bs hs d acc vol ss c) (h2:PlanOK qs cs bs hs d acc' vol' ss' c'):acc=acc'∧vol=vol'∧ss=ss'∧c=c':=by
  obtain ⟨F,m,hm,h1⟩:=h1
  obtain ⟨G,k,hk,h2⟩:=h2
  obtain ⟨rfl,rfl,_⟩:=hm.uniq hk
  rcases h1 with ⟨a1,a2,a3,a4,s1,k1,a5,a6⟩|⟨a1,a2,a3,a4,p1,a5,a6⟩ <;> rcases h2 with ⟨b1,b2,b3,b4,s2,k2,b5,b6⟩|⟨b1,b2,b3,b4,p2,b5,b6⟩
  · have:=(Go.Flow.CutOK.uniq a5 b5).1
    exact ⟨by rw [a2,b2],by rw [a3,b3],by rw [a4,b4],by rw [a6,b6,this]⟩
  · omega
  · omega
  · have:=(Go.Flow.PathsOK.uniq a5 b5).1
    exact ⟨by rw [a2,b2],by rw [a3,b3],by rw [a6,b6,this],by rw [a4,b4]⟩
theorem path_run (h:VOk qs cs bs hs d) (hv:validT qs cs bs hs d=true) {F:List Int} {m:Int} (hm:MaxN qs cs bs hs d F m 0) {ps:PathL} {e:Int} (hp:PathN qs cs bs hs d F ps e) :
    e=0∧∃ N S T:Nat,vsN qs d=N∧vtx d d.s d.r=S∧vtx d d.d d.e=T∧S<N∧T<N∧S≠T∧(∀ a∈arcsG qs cs bs hs d,Go.Flow.okArc N a=true)∧Flw N (arcsG qs cs bs hs d) S T F∧m=fval S (arcsG qs cs bs hs d) F∧∃ r,RunP N (arcsG qs cs bs hs d) S T F ps r:=by
  obtain ⟨_,N,S,T,hN,hS,hT,hf,hval,_⟩:=max_cut h hm
  have hsE:=shipsE_flow h hv hN hS hT hf
  have hends:=okEnds_iff.1 h.ends
  have hok:=h.ok
  unfold shipsE at hsE;rw [if_pos hv] at hsE;unfold PathN at hp;rw [hN,hS,hT] at hp hends hsE;rw [hN] at hok
  rcases hp with ⟨a1,_⟩|⟨_,a2,r,a3⟩
  · exact absurd hsE a1
  simp only [Int.toNat_natCast] at a3
  exact ⟨a2,N,S,T,hN,hS,hT,by omega,by omega,by omega,hok,hf,hval,r,a3⟩
theorem part_ok (h:VOk qs cs bs hs d) (hv:validT qs cs bs hs d=true) {F:List Int} {m:Int} (hm:MaxN qs cs bs hs d F m 0) {ps:PathL} (hp:PathN qs cs bs hs d F ps 0) (hle:d.v≤m) :
    ∃ N S T:Nat,vsN qs d=N∧vtx d d.s d.r=S∧vtx d d.d d.e=T∧Flw N (arcsG qs cs bs hs d) S T (partF qs cs bs hs d ps)∧fval S (arcsG qs cs bs hs d) (partF qs cs bs hs d ps)=d.v∧shipsE qs cs bs hs d (partF qs cs bs hs d ps)=0:=by
  obtain ⟨_,N,S,T,hN,hS,hT,s1,s2,s3,hok,hf,hval,r,hr⟩:=path_run h hv hm hp
  have hdm:=h.dm
  unfold okDm at hdm
  obtain ⟨p1,p2⟩:=Go.Flow.part_flow hok s1 s2 s3 hr hf (v:=d.v) (by omega) (by omega)
  exact ⟨N,S,T,hN,hS,hT,p1,p2,shipsE_flow h hv hN hS hT p1⟩
open Go.Flow (addP addAll inCap getD_set inCap_get neededL needed_take quotaL_get restV) in
theorem part_step {l:List Arc} {P:List Int} {m:Int} {x:Go.Flow.Lk} (hc:∀ a∈l,a.c≤1099511627776) (h1:inCap l P=true) (hl:P.length=l.length) (h2:inCap l (addP m P x)=true) (hk:x.k<l.length) :
    (0≤P.getD x.k 0∧P.getD x.k 0≤1099511627776)∧(0≤P.getD x.k 0+m∧P.getD x.k 0+m≤1099511627776):=by
  have ha:=List.getElem?_eq_getElem hk
  have hca:=hc _ (List.getElem_mem hk)
  have e1:P[x.k]?=some (P.getD x.k 0):=by simp [List.getD_eq_getElem?_getD,show x.k<P.length by omega]
  have e2:(addP m P x)[x.k]?=some (P.getD x.k 0+m):=by
    unfold addP
    simp [show x.k<P.length by omega]
  have b1:=inCap_get l P h1 x.k _ _ ha e1
  have b2:=inCap_get l _ h2 x.k _ _ ha e2
  omega
open Go.Flow (neededL needed_take quotaL_get restV) in
theorem needed_at {ps:PathL} {v:Int} {i:Nat} {q:List Go.Flow.Lk × Int} (h:(neededL ps v)[i]?=some q):(neededL ps v).take i=(quotaL ps v).take i∧(neededL ps v).take (i+1)=(quotaL ps v).take i ++ [q]∧(quotaL ps v)[i]?=some q∧∃ p,ps[i]?=some p∧q.1=p.1:=by
  have hi:=(List.getElem?_eq_some_iff.1 h).1
  have e:=needed_take ps v
  have e1:(neededL ps v).take i=(quotaL ps v).take i:=by
    have:=congrArg (List.take i) e
    rwa [List.take_take,Nat.min_eq_left (by omega)] at this
  have e2:(neededL ps v).take (i+1)=(quotaL ps v).take (i+1):=by
    have:=congrArg (List.take (i+1)) e
    rwa [List.take_take,Nat.min_eq_left (by omega)] at this
  have e3:(quotaL ps v)[i]?=some q:=by
    have this:(neededL ps v)[i]?=((quotaL ps v).take (neededL ps v).length)[i]?:=congrArg (fun l:PathL=>l[i]?) e
    rw [h,List.getElem?_take_of_lt hi] at this;exact this.symm
  refine ⟨e1,?_,e3,?_⟩
  · rw [e2]
    obtain ⟨h1,h2⟩:=List.getElem?_eq_some_iff.1 e3
    rw [List.take_succ_eq_append_getElem h1,h2]
  · rw [quotaL_get] at e3
    obtain ⟨p,h1,h2⟩:=Option.map_eq_some_iff.1 e3
    exact ⟨p,h1,by rw [← h2]⟩
end Go.Step
namespace Go.Step
open Go.Flow (Flw fval)
variable {qs:List Int} {cs:List Ct} {bs:List Bk} {hs:List Hd} {d:Dm}
theorem max_nonneg (h:VOk qs cs bs hs d) {F:List Int} {m e:Int} (hm:MaxN qs cs bs hs d F m e):0≤m:=by
  obtain ⟨_,_,_,_,_,_,_,_,_,P,_,_,hP⟩:=max_cut h hm
  have hdm:=h.dm
  unfold okDm at hdm
  have hn:0<qs.length:=by have:=h.nq; omega
  have h1:=waitB_nonneg h P hn d.r
  have h2:=capB_wait_le h P hn (t:=d.r) (Int.le_refl _) (by omega)
  omega
end Go.Step
namespace Go.Step
end Go.Step
namespace Go.Eng
open Go.IntWalk
variable {R H:List PH} {L:Env}
theorem resS2 {fn:Func} {N:Bs} {M:Nat} {P:Program} {t u b1 b2:Nat} {T U:TypeId} {v1 v2:List Value} (hr:fn.results = #[.cell t T,.cell u U]) (ht:look L t=some (.pointer (some ⟨b1,0,none⟩))) (hu:look L u=some (.pointer (some ⟨b2,0,none⟩))) (a1:aggP P T=some true) (a2:aggP P U=some true)
    (n1:szP P T=some v1.length) (n2:szP P U=some v2.length) (c1:Cells N R H b1 0 v1) (c2:Cells N R H b2 0 v2):∀ a w,Frm M L a→Sat N R H w→(results fn a.tmps).run P w=.ok (.tuple #[.agg v1.toArray,.agg v2.toArray]) w:=by
  intro a w hf hs
  have e1:a.tmps[t]?.getD undef=.pointer (some ⟨b1,0,none⟩):=by simpa using hf.get t _ ht
  have e2:a.tmps[u]?.getD undef=.pointer (some ⟨b2,0,none⟩):=by simpa using hf.get u _ hu
  have l1:=run_loadCells_list (P:=P) (w:=w) ⟨b1,0,none⟩ v1 (fun j v hv=>by rw [Addr.add_lit]; exact c1 w hs j v hv)
  have l2:=run_loadCells_list (P:=P) (w:=w) ⟨b2,0,none⟩ v2 (fun j v hv=>by rw [Addr.add_lit]; exact c2 w hs j v hv)
  simp [results,hr,e1,e2,loadVar,run_isAgg a1,run_isAgg a2,run_sizeOf n1,run_sizeOf n2,l1,l2,asAddr]
theorem Flat.agg7 {a b c d e f g:Value} {vs cs:List Value} (h:Flat vs cs):Flat (.agg #[a,b,c,d,e,f,g]::vs) (a::b::c::d::e::f::g::cs):=Flat.agg (ws:=[a,b,c,d,e,f,g]) h
theorem FM {C:Cx} {x y:Operand} {dst:Option Tmp} {ty:TypeId} {pos:String} {aft:Array Edge} {g:Option (Nat × Bool)} {xT yT:TypeId} {m n:Int} (h1:evalE L x=some (.int .i64 m)) (h2:evalE L y=some (.int .i64 n)):Quiet C R H L ⟨dst,.binOp .add xT x y yT,ty,pos,aft,g⟩ (.int .i64 (IntKind.i64.wrap (m+n))):=
  E1 (C:=C) (R:=R) (H:=H) (dst:=dst) (ty:=ty) (pos:=pos) (aft:=aft) (g:=g) (xT:=xT) (yT:=yT) (.inl ⟨rfl,rfl⟩) h1 h2
end Go.Eng
namespace Go.Step
/-! sums -/
/-! one shipment -/
section
variable (cs:List Ct) (d:Dm) (P:Int→Int→Bool)
variable {cs d P}
/-! the ends -/
/-! the waits -/
/-! the contacts -/
end
section
variable {qs:List Int} {cs:List Ct} {bs:List Bk} {hs:List Hd} {d:Dm}
end
end Go.Step
namespace Go.Step
section
variable {qs:List Int} {cs:List Ct} {bs bs':List Bk} {hs hs':List Hd} {d:Dm}
end
end Go.Step
namespace Go.Step
def net1 (cs:List Ct) (n:Int) (x:Sh):Int:=(if (ctOf cs x).t=n then x.n else 0)-(if (ctOf cs x).f=n then x.n else 0)
def netS (cs:List Ct) (n:Int) (l:List Sh):Int:=lsum (net1 cs n) l
section
variable {qs:List Int} {cs:List Ct} {bs:List Bk} {hs:List Hd} {d:Dm}
end
end Go.Step
namespace Go.Step
def have1 (cs:List Ct) (n t:Int) (x:Sh):Int:=(if (ctOf cs x).t=n∧arrOf cs x≤t then x.n else 0)-(if (ctOf cs x).f=n∧x.t≤t then x.n else 0)
def haveS (cs:List Ct) (n t:Int) (l:List Sh):Int:=lsum (have1 cs n t) l
def chg1 (cs:List Ct) (n t:Int) (x:Sh):Int:=(if (ctOf cs x).t=n∧arrOf cs x=t then x.n else 0)-(if (ctOf cs x).f=n∧x.t=t then x.n else 0)
def chgS (cs:List Ct) (n t:Int) (l:List Sh):Int:=lsum (chg1 cs n t) l
def evsN (cs:List Ct) (n:Int) (l:List Sh):List Int:=l.flatMap (fun x=>(if (ctOf cs x).f=n then [x.t] else []) ++ (if (ctOf cs x).t=n then [arrOf cs x] else []))
def evtN (cs:List Ct) (n:Int) (l:List Sh):List Int:=Lib.compact ((evsN cs n l).mergeSort fun x y=>decide (x≤y))
theorem mem_evsN {cs:List Ct} {n t:Int} {l:List Sh}:t∈evsN cs n l↔∃ x∈l,((ctOf cs x).f=n∧t=x.t)∨((ctOf cs x).t=n∧t=arrOf cs x):=by
  unfold evsN;rw [List.mem_flatMap]
  constructor
  · rintro ⟨x,hx,h⟩
    refine ⟨x,hx,?_⟩
    rcases List.mem_append.1 h with h|h
    · split at h
      · rename_i c; exact .inl ⟨c,by simpa using h⟩
      · simp at h
    · split at h
      · rename_i c; exact .inr ⟨c,by simpa using h⟩
      · simp at h
  · rintro ⟨x,hx,⟨c,h⟩|⟨c,h⟩⟩
    · exact ⟨x,hx,List.mem_append.2 (.inl (by rw [if_pos c]; simp [h]))⟩
    · exact ⟨x,hx,List.mem_append.2 (.inr (by rw [if_pos c]; simp [h]))⟩
theorem evtN_sa (cs:List Ct) (n:Int) (l:List Sh):SA (evtN cs n l)∧∀ t,t∈evtN cs n l↔t∈evsN cs n l:=by
  have hp:((evsN cs n l).mergeSort fun x y=>decide (x≤y)).Pairwise (· ≤ ·):=by
    have:=List.pairwise_mergeSort (le:=fun x y:Int=>decide (x≤y)) (by intro a b c h1 h2; simp at *; omega) (by intro a b; simp; omega) (evsN cs n l)
    exact this.imp (fun h=>by simpa using h)
  obtain ⟨h1,h2⟩:=compact_sa hp
  exact ⟨h1,fun x=>by unfold evtN; rw [h2 x,List.mem_mergeSort]⟩
theorem haveS_same {cs:List Ct} {n a b:Int} (hab:a≤b) {l:List Sh} (h:∀ t∈evsN cs n l,¬ (a<t∧t≤b)):haveS cs n b l=haveS cs n a l:=by
  unfold haveS
  refine lsum_congr (fun x hx=>?_)
  have h1:(ctOf cs x).f=n→¬ (a<x.t∧x.t≤b):=fun c=>h _ (mem_evsN.2 ⟨x,hx,.inl ⟨c,rfl⟩⟩)
  have h2:(ctOf cs x).t=n→¬ (a<arrOf cs x∧arrOf cs x≤b):=fun c=>h _ (mem_evsN.2 ⟨x,hx,.inr ⟨c,rfl⟩⟩)
  unfold have1
  by_cases c1:(ctOf cs x).f=n <;> by_cases c2:(ctOf cs x).t=n <;> simp only [c1,c2,true_and,false_and,if_false]
  · have:=h1 c1; have:=h2 c2
    split <;> split <;> split <;> split <;> omega
  · have:=h1 c1
    split <;> split <;> omega
  · have:=h2 c2
    split <;> split <;> omega
theorem haveS_step (cs:List Ct) (n t:Int) (l:List Sh):haveS cs n t l=haveS cs n (t-1) l+chgS cs n t l:=by
  unfold haveS chgS;rw [← lsum_add]
  refine lsum_congr (fun x _=>?_)
  unfold have1 chg1
  by_cases c1:(ctOf cs x).f=n <;> by_cases c2:(ctOf cs x).t=n <;> simp only [c1,c2,true_and,false_and,if_false]
  · split <;> split <;> split <;> split <;> split <;> split <;> omega
  · split <;> split <;> split <;> omega
  · split <;> split <;> split <;> omega
  · omega
theorem haveS_early {cs:List Ct} {n t:Int} {l:List Sh} (h:∀ u∈evsN cs n l,t<u):haveS cs n t l=0:=by
  unfold haveS
  rw [lsum_congr (g:=fun _=>0) (fun x hx=>?_),lsum_zero]
  have h1:(ctOf cs x).f=n→t<x.t:=fun c=>h _ (mem_evsN.2 ⟨x,hx,.inl ⟨c,rfl⟩⟩)
  have h2:(ctOf cs x).t=n→t<arrOf cs x:=fun c=>h _ (mem_evsN.2 ⟨x,hx,.inr ⟨c,rfl⟩⟩)
  unfold have1
  by_cases c1:(ctOf cs x).f=n <;> by_cases c2:(ctOf cs x).t=n <;> simp only [c1,c2,true_and,false_and,if_false]
  · rw [if_neg (by have:=h2 c2; omega),if_neg (by have:=h1 c1; omega)]; rfl
  · rw [if_neg (by have:=h1 c1; omega)]; rfl
  · rw [if_neg (by have:=h2 c2; omega)]; rfl
  · rfl
theorem haveS_late {cs:List Ct} {n t:Int} {l:List Sh} (h:∀ u∈evsN cs n l,u≤t):haveS cs n t l=netS cs n l:=by
  unfold haveS netS
  refine lsum_congr (fun x hx=>?_)
  have h1:(ctOf cs x).f=n→x.t≤t:=fun c=>h _ (mem_evsN.2 ⟨x,hx,.inl ⟨c,rfl⟩⟩)
  have h2:(ctOf cs x).t=n→arrOf cs x≤t:=fun c=>h _ (mem_evsN.2 ⟨x,hx,.inr ⟨c,rfl⟩⟩)
  unfold have1 net1
  by_cases c1:(ctOf cs x).f=n <;> by_cases c2:(ctOf cs x).t=n <;> simp only [c1,c2,true_and,false_and,if_false,if_true]
  · rw [if_pos (h2 c2),if_pos (h1 c1)]
  · rw [if_pos (h1 c1)]
  · rw [if_pos (h2 c2)]
def lvN (cs:List Ct) (n:Int) (l:List Sh):List Lv:=comb (fun t=>haveS cs n t l) 0 (evtN cs n l)
theorem mem_comb {F:Int→Int}:∀ {ts:List Int} {p:Int},SA ts→(∀ x∈ts,p<x)→(∀ a b:Int,p≤a→a≤b→(∀ y∈ts,¬ (a<y∧y≤b))→F b=F a)→∀ y:Lv,y∈comb F (F p) ts↔y.a∈ts∧y.v=F y.a∧F y.a≠F (y.a-1)
  | [],p,_,_,_,y=>by simp [comb]
  | x::xs,p,hs,hp,H,y=>by
    have q:=List.pairwise_cons.1 hs
    have hpx:=hp x (by simp)
    have ih:=mem_comb (F:=F) q.2 q.1 (fun a b h1 h2 h3=>H a b (by omega) h2 (fun z hz=>by
      simp at hz
      rcases hz with rfl|hz
      · omega
      · exact h3 z hz)) y
    have hx1:F (x-1)=F p:=H p (x-1) (Int.le_refl _) (by omega) (fun z hz=>by
      simp at hz
      rcases hz with rfl|hz
      · omega
      · have:=q.1 z hz; omega)
    have hy:y.a∈xs→y.a≠x:=fun h he=>by have:=q.1 _ h; omega
    simp only [comb]
    split
    · rename_i hne
      rw [List.mem_cons,ih,List.mem_cons]
      constructor
      · rintro (rfl|⟨h1,h2,h3⟩)
        · exact ⟨.inl rfl,rfl,by dsimp only; rw [hx1]; exact hne⟩
        · exact ⟨.inr h1,h2,h3⟩
      · rintro ⟨h1|h1,h2,h3⟩
        · left
          obtain ⟨a,v⟩:=y
          dsimp only at h1 h2
          subst h1;rw [h2]
        · exact .inr ⟨h1,h2,h3⟩
    · rename_i he
      have he:F x=F p:=Classical.not_not.1 he
      rw [ih,List.mem_cons]
      constructor
      · rintro ⟨h1,h2,h3⟩
        exact ⟨.inr h1,h2,h3⟩
      · rintro ⟨h1|h1,h2,h3⟩
        · rw [h1,hx1,he] at h3
          exact absurd rfl h3
        · exact ⟨h1,h2,h3⟩
theorem comb_asc {F:Int→Int}:∀ {ts:List Int} {c:Int},SA ts→(comb F c ts).Pairwise (fun x y=>x.a<y.a)
  | [],_,_=>.nil
  | x::xs,c,hs=>by
    have q:=List.pairwise_cons.1 hs
    simp only [comb]
    split
    · exact List.pairwise_cons.2 ⟨fun l hl=>comb_gt q.1 l hl,comb_asc q.2⟩
    · exact comb_asc q.2
theorem evs_low (cs:List Ct) (n:Int) (l:List Sh):∃ p,∀ u∈evsN cs n l,p<u:=by
  have:∀ L:List Int,∃ p,∀ u∈L,p<u:=fun L=>by
    induction L with
    | nil=>exact ⟨0,by simp⟩
    | cons x L ih =>
      obtain ⟨p,hp⟩:=ih
      refine ⟨min p (x-1),fun u hu=>?_⟩
      rcases List.mem_cons.1 hu with rfl|hu
      · omega
      · have:=hp u hu; omega
  exact this _
theorem lvN_ok (cs:List Ct) (n:Int) (l:List Sh):(lvN cs n l).Pairwise (fun x y=>x.a<y.a)∧(∀ y:Lv,y∈lvN cs n l↔y.v=haveS cs n y.a l∧chgS cs n y.a l≠0)∧∀ t,val (lvN cs n l) t=haveS cs n t l:=by
  obtain ⟨h1,h2⟩:=evtN_sa cs n l
  obtain ⟨p0,hp0⟩:=evs_low cs n l
  have hp:∀ p,p≤p0→∀ x∈evtN cs n l,p<x:=fun p h x hx=>by have:=hp0 x ((h2 x).1 hx); omega
  have hsame:∀ a b:Int,a≤b→(∀ y∈evtN cs n l,¬ (a<y∧y≤b))→haveS cs n b l=haveS cs n a l:=fun a b hab hy=>haveS_same hab (fun t ht=>hy t ((h2 t).2 ht))
  have h0:∀ p,p≤p0→haveS cs n p l=0:=fun p hp1=>haveS_early (fun u hu=>by have:=hp0 u hu; omega)
  refine ⟨comb_asc h1,fun y=>?_,fun t=>?_⟩
  · have:=mem_comb (F:=fun t=>haveS cs n t l) (p:=p0) h1 (hp p0 (Int.le_refl _)) (fun a b _ h3 h4=>hsame a b h3 h4) y
    rw [h0 p0 (Int.le_refl _)] at this;unfold lvN;rw [this]
    have hst:=haveS_step cs n y.a l
    constructor
    · rintro ⟨a1,a2,a3⟩
      exact ⟨a2,by omega⟩
    · rintro ⟨a2,a3⟩
      refine ⟨?_,a2,by omega⟩
      apply Decidable.byContradiction
      intro hn
      have:=hsame (y.a-1) y.a (by omega) (fun z hz hh=>hn (by have e:z=y.a:=(by omega); rw [← e]; exact hz))
      omega
  · have hv:=vat_comb (F:=fun t=>haveS cs n t l) (t:=t) (cur:=0) h1
    unfold val lvN;rw [hv]
    have:=tv_eq (F:=fun t=>haveS cs n t l) (p:=min p0 t) (t:=t) h1 (hp _ (by omega)) (by omega) (fun a b _ h3 h4=>hsame a b h3 h4)
    rw [h0 (min p0 t) (by omega)] at this
    exact this
def spL:List Lv→List ((Int × Int) × Int)
  | x::y::f=>(if 0<x.v then [((x.a,y.a),x.v)] else []) ++ spL (y::f)
  | _=>[]
theorem spL_low:∀ {f:List Lv} {p:Int},f.Pairwise (fun x y=>x.a<y.a)→(∀ x∈f,p≤x.a)→∀ s∈spL f,p≤s.1.1∧s.1.1<s.1.2∧0<s.2∧(∃ x∈f,s.1.1=x.a∧s.2=x.v)∧∃ y∈f,s.1.2=y.a
  | [],_,_,_,s,hs=>by simp [spL] at hs
  | [x],_,_,_,s,hs=>by simp [spL] at hs
  | x::y::f,p,hp,hl,s,hs=>by
    have q:=List.pairwise_cons.1 hp
    unfold spL at hs
    rcases List.mem_append.1 hs with h|h
    · split at h
      · rename_i hv
        rw [List.mem_singleton] at h;subst h
        exact ⟨hl x (by simp),q.1 y (by simp),hv,⟨x,by simp,rfl,rfl⟩,y,by simp,rfl⟩
      · simp at h
    · obtain ⟨a1,a2,a3,⟨z,hz,a4⟩,w,hw,a5⟩:=spL_low (p:=p) q.2 (fun z hz=>hl z (by simp [hz])) s h
      exact ⟨a1,a2,a3,⟨z,by simp [hz],a4⟩,w,by simp [hw],a5⟩
def pieces (n a b s:Int) (k:Nat):List Hd:=(List.range k).map (fun i:Nat=>⟨n,a,b,min (s-65536*i) 65536,0⟩)
def pieceN (s:Int):Nat:=((s+65535) / 65536).toNat
def holdsN (cs:List Ct) (n:Int) (l:List Sh):List Hd:=(spL (lvN cs n l)).flatMap (fun p=>pieces n p.1.1 p.1.2 p.2 (pieceN p.2))
def holdsA (cs:List Ct) (l:List Sh):Nat→List Hd
  | 0=>[]
  | k+1=>holdsA cs l k ++ (if netS cs k l=0 then holdsN cs k l else [])
def negN (cs:List Ct) (n:Int) (l:List Sh):Bool:=decide (netS cs n l=0) && (lvN cs n l).any (fun y=>decide (y.v<0))
theorem pieceN_ok {s:Int} (h:0<s):65536*(pieceN s:Int)<s+65536∧s≤65536*(pieceN s:Int):=by
  unfold pieceN;omega
end Go.Step
namespace Go.Step
def IsRun (K:List (Int × Int)) (b:Bk):Prop:=b.k=0∧b.a<b.b∧(∀ t,b.a≤t→t<b.b→(b.c,t)∈K)∧(b.c,b.a-1)∉K∧(b.c,b.b)∉K
theorem IsRun.same {K:List (Int × Int)} {x y:Bk} (hx:IsRun K x) (hy:IsRun K y) (hc:x.c=y.c) {t:Int} (h1:x.a≤t) (h2:t<x.b) (h3:y.a≤t) (h4:t<y.b):x=y:=by
  obtain ⟨a1,a2,a3,a4,a5⟩:=hx
  obtain ⟨b1,b2,b3,b4,b5⟩:=hy
  have e1:x.a=y.a:=by
    rcases Int.lt_trichotomy x.a y.a with h|h|h
    · exact absurd (hc ▸ a3 (y.a-1) (by omega) (by omega)) b4
    · exact h
    · exact absurd (hc ▸ b3 (x.a-1) (by omega) (by omega):(x.c,x.a-1)∈K) a4
  have e2:x.b=y.b:=by
    rcases Int.lt_trichotomy x.b y.b with h|h|h
    · exact absurd (hc ▸ b3 x.b (by omega) h:(x.c,x.b)∈K) a5
    · exact h
    · exact absurd (hc ▸ a3 y.b (by omega) h) b5
  obtain ⟨xc,xa,xb,xk⟩:=x
  obtain ⟨yc,ya,yb,yk⟩:=y
  dsimp only at *
  subst hc e1 e2 a1 b1
  rfl
def addT (out:List Bk) (x:Int × Int):List Bk:=match out.getLast? with
  | some b=>if b.c=x.1∧b.b=x.2 then out.dropLast ++ [⟨b.c,b.a,b.b+1,b.k⟩] else out ++ [⟨x.1,x.2,x.2+1,0⟩]
  | none=>[⟨x.1,x.2,x.2+1,0⟩]
def runsK (K:List (Int × Int)):List Bk:=K.foldl addT []
theorem runsK_snoc (K:List (Int × Int)) (x:Int × Int):runsK (K ++ [x])=addT (runsK K) x:=by
  unfold runsK;rw [List.foldl_append]
  rfl
abbrev lexT (x y:Int × Int):Prop:=x.1<y.1∨(x.1=y.1∧x.2<y.2)
structure RunsOf (K:List (Int × Int)) (out:List Bk):Prop where
  p:out.Pairwise (fun x y=>x.c<y.c∨(x.c=y.c∧x.b<y.a))
  q:∀ b∈out,b.a<b.b∧b.k=0
  r:∀ c t,(c,t)∈K↔∃ b∈out,b.c=c∧b.a≤t∧t<b.b
theorem RunsOf.add {K:List (Int × Int)} {out:List Bk} (h:RunsOf K out) {x:Int × Int} (hx:∀ y∈K,lexT y x):RunsOf (K ++ [x]) (addT out x):=by
  obtain ⟨xc,xt⟩:=x
  have hold:∀ b∈out,b.c<xc∨(b.c=xc∧b.b≤xt):=fun b hb=>by
    have h1:=h.q b hb
    have:=hx (b.c,b.b-1) ((h.r _ _).2 ⟨b,hb,rfl,by omega,by omega⟩)
    unfold lexT at this
    dsimp only at this
    omega
  unfold addT
  cases hl:out.getLast? with
  | none =>
    have:out=[]:=by simpa using hl
    subst this
    refine ⟨List.pairwise_singleton _ _,fun b hb=>?_,fun c t=>?_⟩
    · rw [List.mem_singleton] at hb; subst hb; dsimp only; omega
    · rw [List.mem_append,h.r,List.mem_singleton,Prod.mk.injEq]
      constructor
      · rintro (⟨b,hb,_⟩|⟨rfl,rfl⟩)
        · simp at hb
        · exact ⟨_,List.mem_singleton.2 rfl,rfl,by dsimp only; omega,by dsimp only; omega⟩
      · rintro ⟨b,hb,h1,h2,h3⟩
        rw [List.mem_singleton] at hb;subst hb
        dsimp only at h1 h2 h3
        exact .inr ⟨h1.symm,by omega⟩
  | some b =>
    obtain ⟨pre,rfl⟩:∃ pre,out=pre ++ [b]:=by
      have hne:out≠[]:=by intro hh; rw [hh] at hl; simp at hl
      refine ⟨out.dropLast,?_⟩
      have h1:=List.dropLast_concat_getLast hne
      rw [List.getLast?_eq_some_getLast hne] at hl;rw [← Option.some.inj hl];exact h1.symm
    dsimp only
    have hp:=List.pairwise_append.1 h.p
    split
    · rename_i hc
      rw [List.dropLast_concat]
      refine ⟨List.pairwise_append.2 ⟨hp.1,List.pairwise_singleton _ _,fun y hy z hz=>?_⟩,fun y hy=>?_,fun c t=>?_⟩
      · rw [List.mem_singleton] at hz
        subst hz
        exact hp.2.2 y hy b (by simp)
      · rcases List.mem_append.1 hy with hy|hy
        · exact h.q y (by simp [hy])
        · rw [List.mem_singleton] at hy
          subst hy
          have:=h.q b (by simp)
          dsimp only
          omega
      · rw [List.mem_append,h.r,List.mem_singleton,Prod.mk.injEq]
        constructor
        · rintro (⟨y,hy,h1,h2,h3⟩|⟨rfl,rfl⟩)
          · rcases List.mem_append.1 hy with hy|hy
            · exact ⟨y,by simp [hy],h1,h2,h3⟩
            · rw [List.mem_singleton] at hy
              subst hy
              exact ⟨_,List.mem_append.2 (.inr (List.mem_singleton.2 rfl)),h1,h2,by dsimp only; omega⟩
          · have:=h.q b (by simp)
            exact ⟨_,List.mem_append.2 (.inr (List.mem_singleton.2 rfl)),hc.1,by dsimp only; omega,by dsimp only; omega⟩
        · rintro ⟨y,hy,h1,h2,h3⟩
          rcases List.mem_append.1 hy with hy|hy
          · exact .inl ⟨y,by simp [hy],h1,h2,h3⟩
          · rw [List.mem_singleton] at hy
            subst hy
            dsimp only at h1 h2 h3
            by_cases ht:t<b.b
            · exact .inl ⟨b,by simp,h1,h2,ht⟩
            · exact .inr ⟨by omega,by omega⟩
    · rename_i hc
      refine ⟨List.pairwise_append.2 ⟨h.p,List.pairwise_singleton _ _,fun y hy z hz=>?_⟩,fun y hy=>?_,fun c t=>?_⟩
      · rw [List.mem_singleton] at hz
        subst hz
        dsimp only
        have h1:=hold y hy
        rcases List.mem_append.1 hy with hy2|hy2
        · have h2:=hp.2.2 y hy2 b (by simp)
          have h3:=hold b (by simp)
          have h4:=h.q b (by simp)
          omega
        · rw [List.mem_singleton] at hy2
          subst hy2;omega
      · rcases List.mem_append.1 hy with hy|hy
        · exact h.q y hy
        · rw [List.mem_singleton] at hy
          subst hy
          dsimp only
          omega
      · rw [List.mem_append,h.r,List.mem_singleton,Prod.mk.injEq]
        constructor
        · rintro (⟨y,hy,h1,h2,h3⟩|⟨rfl,rfl⟩)
          · exact ⟨y,List.mem_append.2 (.inl hy),h1,h2,h3⟩
          · exact ⟨_,List.mem_append.2 (.inr (List.mem_singleton.2 rfl)),rfl,by dsimp only; omega,by dsimp only; omega⟩
        · rintro ⟨y,hy,h1,h2,h3⟩
          rcases List.mem_append.1 hy with hy|hy
          · exact .inl ⟨y,hy,h1,h2,h3⟩
          · rw [List.mem_singleton] at hy
            subst hy
            dsimp only at h1 h2 h3
            exact .inr ⟨h1.symm,by omega⟩
theorem runsK_ok:∀ {K:List (Int × Int)},K.Pairwise lexT→RunsOf K (runsK K):=fun {K} h=>by
  have hk:∀ k,k≤K.length→RunsOf (K.take k) (runsK (K.take k)):=fun k=>by
    induction k with
    | zero=>exact fun _=>⟨.nil,by simp [runsK],fun c t=>by simp [runsK]⟩
    | succ k ih =>
      intro hk
      rw [List.take_succ_eq_append_getElem (by omega),runsK_snoc]
      refine (ih (by omega)).add (fun y hy=>?_)
      obtain ⟨i,hi,rfl⟩:=List.mem_take_iff_getElem.1 hy
      exact (List.pairwise_iff_getElem.1 h) i k (by omega) (by omega) (by omega)
  have:=hk K.length (Nat.le_refl _)
  rwa [List.take_length] at this
theorem RunsOf.is {K:List (Int × Int)} {out:List Bk} (h:RunsOf K out):(∀ b,b∈out↔IsRun K b)∧out.Nodup:=by
  have hsame:∀ x∈out,∀ y∈out,x.c=y.c→∀ t,x.a≤t→t≤x.b→y.a≤t→t≤y.b→x=y:=fun x hx y hy hc t h1 h2 h3 h4=>by
    obtain ⟨i,hi,rfl⟩:=List.getElem_of_mem hx
    obtain ⟨j,hj,rfl⟩:=List.getElem_of_mem hy
    rcases Nat.lt_trichotomy i j with hij|hij|hij
    · have:=(List.pairwise_iff_getElem.1 h.p) i j hi hj hij
      omega
    · subst hij; rfl
    · have:=(List.pairwise_iff_getElem.1 h.p) j i hj hi hij
      omega
  have h1:∀ b∈out,IsRun K b:=fun b hb=>by
    have hq:=h.q b hb
    refine ⟨hq.2,hq.1,fun t h2 h3=>(h.r _ _).2 ⟨b,hb,rfl,h2,h3⟩,fun hm=>?_,fun hm=>?_⟩
    · obtain ⟨y,hy,e1,e2,e3⟩:=(h.r _ _).1 hm
      have:=hsame b hb y hy e1.symm b.a (by omega) (by omega) (by omega) (by omega)
      subst this;omega
    · obtain ⟨y,hy,e1,e2,e3⟩:=(h.r _ _).1 hm
      have:=hsame b hb y hy e1.symm b.b (by omega) (by omega) (by omega) (by omega)
      subst this;omega
  refine ⟨fun b=>⟨h1 b,fun hb=>?_⟩,?_⟩
  · obtain ⟨y,hy,e1,e2,e3⟩:=(h.r b.c b.a).1 (hb.2.2.1 b.a (Int.le_refl _) hb.2.1)
    have:=IsRun.same hb (h1 y hy) e1.symm (t:=b.a) (Int.le_refl _) hb.2.1 e2 e3
    rw [this]; exact hy
  · refine List.pairwise_iff_getElem.2 (fun i j hi hj hij e=>?_)
    have h2:=(List.pairwise_iff_getElem.1 h.p) i j hi hj hij
    have h3:=h.q _ (List.getElem_mem hj)
    rw [e] at h2;omega
end Go.Step
namespace Go.Step
open Go.Eng (insL insL_len)
theorem bookedB_iff {l:List Bk} {c t:Int}:bookedB l c t=true↔∃ y∈l,y.c=c∧y.a≤t∧t<y.b:=by
  unfold bookedB busyL;rw [List.any_eq_true]
  constructor
  · rintro ⟨s,hs,h⟩
    obtain ⟨y,hy,rfl⟩:=List.mem_map.1 hs
    rw [List.mem_filter,decide_eq_true_eq] at hy;rw [Bool.and_eq_true,decide_eq_true_eq,decide_eq_true_eq] at h;exact ⟨y,hy.1,hy.2,h⟩
  · rintro ⟨y,hy,hc,h1,h2⟩
    refine ⟨(y.a,y.b),List.mem_map.2 ⟨y,List.mem_filter.2 ⟨hy,decide_eq_true hc⟩,rfl⟩,?_⟩;rw [Bool.and_eq_true,decide_eq_true_eq,decide_eq_true_eq];exact ⟨h1,h2⟩
end Go.Step
namespace Go.Step
theorem chkH_parts {qs:List Int} {cs:List Ct} {l:List Hd} (h:chkH qs cs l=0):chkPl qs cs=0∧l.length≤512∧firstE (hdE qs.length l) l.length=0∧fitB qs l=true:=by
  unfold chkH at h
  split at h
  · omega
  rename_i h1
  split at h
  · omega
  rename_i h2
  split at h
  · omega
  rename_i h3
  split at h
  · rename_i h4
    exact ⟨by omega,by omega,by omega,h4⟩
  · omega
section
variable {qs:List Int} {cs:List Ct} {bs:List Bk} {hs:List Hd} {d:Dm} {F F':List Int} {m m' e e':Int}
end
end Go.Step
namespace Go.Step
def ticksS (l:List Sh):List (Int × Int):=l.map (fun x=>(x.c,x.t))
def rsv1 (cs:List Ct) (x:Sh):Int:=
  if x.c<0∨(cs.length:Int)≤x.c then 2 else match cs[x.c.toNat]? with
    | none=>2
    | some c=>if x.t<c.s∨c.e≤x.t∨x.n<1∨c.r<x.n then 2 else 0
def rsvE (cs:List Ct) (bs:List Bk) (l:List Sh) (i:Nat):Int:=match l[i]? with
  | none=>0
  | some x=>if rsv1 cs x≠0 then rsv1 cs x else if (l.take i).any (sameSl x) || bookedB bs x.c x.t then 14 else 0
theorem rsvE_at {cs:List Ct} {bs:List Bk} {l:List Sh} {i:Nat} {x:Sh} (h:l[i]?=some x):rsvE cs bs l i=if rsv1 cs x≠0 then rsv1 cs x else if (l.take i).any (sameSl x) || bookedB bs x.c x.t then 14 else 0:=by unfold rsvE; rw [h]
theorem rsv1_ok {cs:List Ct} {x:Sh} (h:rsv1 cs x=0):∃ c,cs[x.c.toNat]?=some c∧ctOf cs x=c∧(0≤x.c∧x.c<(cs.length:Int))∧c.s≤x.t∧x.t<c.e∧1≤x.n∧x.n≤c.r:=by
  unfold rsv1 at h
  split at h
  · omega
  rename_i h1
  cases hc:cs[x.c.toNat]? with
  | none=>rw [hc] at h; simp at h
  | some c =>
    rw [hc] at h
    dsimp only at h
    split at h
    · omega
    rename_i h2
    exact ⟨c,rfl,by unfold ctOf; rw [List.getD_eq_getElem?_getD,hc]; rfl,by omega,by omega,by omega,by omega,by omega⟩
theorem rsv_facts {cs:List Ct} {bs:List Bk} {l:List Sh} (h:firstE (rsvE cs bs l) l.length=0):(∀ x∈l,rsv1 cs x=0∧bookedB bs x.c x.t=false)∧l.Pairwise (fun x y=>sameSl y x=false):=by
  have h1:∀ (i:Nat) (hi:i<l.length),rsv1 cs l[i]=0∧(l.take i).any (sameSl l[i])=false∧bookedB bs l[i].c l[i].t=false:=fun i hi=>by
    have:=firstE_zero h i hi
    rw [rsvE_at (List.getElem?_eq_getElem hi)] at this
    by_cases h1:rsv1 cs l[i]=0
    · rw [if_neg (by simpa using h1)] at this
      split at this
      · omega
      rename_i h2
      rw [Bool.or_eq_true,not_or] at h2
      exact ⟨h1,by simpa using h2.1,by simpa using h2.2⟩
    · rw [if_pos h1] at this
      exact absurd this h1
  refine ⟨fun x hx=>?_,List.pairwise_iff_getElem.2 (fun i j hi hj hij=>?_)⟩
  · obtain ⟨i,hi,rfl⟩:=List.getElem_of_mem hx
    exact ⟨(h1 i hi).1,(h1 i hi).2.2⟩
  · have:=(h1 j hj).2.1
    rw [List.any_eq_false] at this
    have h2:=this l[i] (List.mem_take_iff_getElem.2 ⟨i,by omega,rfl⟩)
    simpa using h2
structure RsvOK (qs:List Int) (cs:List Ct) (bs:List Bk) (hs:List Hd) (l:List Sh) (R bs':List Bk) (hs':List Hd):Prop where
  rn:R.Nodup
  rm:∀ b,b∈R↔IsRun (ticksS l) b
  pb:bs'.Perm (bs ++ R)
  sb:bs'.Pairwise (fun x y=>cmpBk x y<0)
  ph:hs'.Perm (hs ++ holdsA cs l qs.length)
  sh:SortH hs'
section
variable {qs:List Int} {cs:List Ct} {bs:List Bk} {hs:List Hd} {l:List Sh} {R bs':List Bk} {hs':List Hd}
theorem mem_ticks {c t:Int}:(c,t)∈ticksS l↔∃ x∈l,x.c=c∧x.t=t:=by
  unfold ticksS;rw [List.mem_map]
  constructor
  · rintro ⟨x,hx,h⟩
    rw [Prod.mk.injEq] at h;exact ⟨x,hx,h.1,h.2⟩
  · rintro ⟨x,hx,h1,h2⟩
    exact ⟨x,hx,by rw [h1,h2]⟩
theorem run_ok (h:∀ x∈l,rsv1 cs x=0) {b:Bk} (hb:IsRun (ticksS l) b):okBk cs b:=by
  obtain ⟨h1,h2,h3,_,_⟩:=hb
  obtain ⟨x,hx,e1,e2⟩:=mem_ticks.1 (h3 b.a (Int.le_refl _) h2)
  obtain ⟨y,hy,e3,e4⟩:=mem_ticks.1 (h3 (b.b-1) (by omega) (by omega))
  obtain ⟨c,c1,_,c3,c4,_⟩:=rsv1_ok (h x hx)
  obtain ⟨c',d1,_,d3,d4,d5,_⟩:=rsv1_ok (h y hy)
  rw [e3,← e1,c1] at d1
  obtain rfl:=Option.some.inj d1
  exact ⟨by omega,c,by rw [← e1]; exact c1,by omega,h2,by omega⟩
theorem bks_same (h:firstE (bkE cs bs) bs.length=0) {x y:Bk} (hx:x∈bs) (hy:y∈bs) (hc:x.c=y.c) {t:Int} (h1:x.a≤t) (h2:t<x.b) (h3:y.a≤t) (h4:t<y.b):x=y:=by
  have hp:=bks_apart h
  obtain ⟨i,hi,rfl⟩:=List.getElem_of_mem hx
  obtain ⟨j,hj,rfl⟩:=List.getElem_of_mem hy
  rcases Nat.lt_trichotomy i j with hij|hij|hij
  · have:=(List.pairwise_iff_getElem.1 hp) i j hi hj hij
    omega
  · subst hij; rfl
  · have:=(List.pairwise_iff_getElem.1 hp) j i hj hi hij
    omega
theorem rsv_same (h:firstE (bkE cs bs) bs.length=0) (hb:∀ x∈l,bookedB bs x.c x.t=false) (hm:∀ b,b∈R↔IsRun (ticksS l) b) {x y:Bk} (hx:x∈bs ++ R) (hy:y∈bs ++ R) (hc:x.c=y.c) {t:Int} (h1:x.a≤t) (h2:t<x.b) (h3:y.a≤t) (h4:t<y.b):x=y:=by
  have hno:∀ u v:Bk,u∈bs→v∈R→u.c=v.c→u.a≤t→t<u.b→v.a≤t→t<v.b→False:=fun u v hu hv e a1 a2 a3 a4=>by
    obtain ⟨z,hz,e1,e2⟩:=mem_ticks.1 (((hm v).1 hv).2.2.1 t a3 a4)
    have:=hb z hz
    rw [e1,e2,bookedB_iff.2 ⟨u,hu,e,a1,a2⟩] at this
    simp at this
  rcases List.mem_append.1 hx with hx|hx <;> rcases List.mem_append.1 hy with hy|hy
  · exact bks_same h hx hy hc h1 h2 h3 h4
  · exact (hno x y hx hy hc h1 h2 h3 h4).elim
  · exact (hno y x hy hx hc.symm h3 h4 h1 h2).elim
  · exact IsRun.same ((hm x).1 hx) ((hm y).1 hy) hc h1 h2 h3 h4
theorem ticks_nodup (h:l.Pairwise (fun x y=>sameSl y x=false)):(ticksS l).Nodup:=by
  unfold ticksS;rw [List.Nodup,List.pairwise_map]
  refine h.imp (fun {x y} hxy e=>?_)
  rw [Prod.mk.injEq] at e;unfold sameSl at hxy;rw [decide_eq_false_iff_not] at hxy;exact hxy ⟨e.1.symm,e.2.symm⟩
theorem stored_perm {a b:List Hd} (h:a.Perm b) (n t:Int):stored a n t=stored b n t:=by
  induction h with
  | nil=>rfl
  | cons x _ ih=>simp only [stored,ih]
  | swap x y l=>simp only [stored]; omega
  | trans _ _ h1 h2=>exact h1.trans h2
end
section
variable {qs:List Int} {cs:List Ct} {bs:List Bk} {hs:List Hd} {d:Dm} {l:List Sh} {v:Int}
end
end Go.Step
namespace Go.Step
section
variable {qs:List Int} {cs:List Ct} {bs:List Bk} {hs:List Hd} {l:List Sh}
theorem perm_sorted {α:Type} {r:α→α→Prop} (anti:∀ x y,r x y→r y x→x=y):∀ {a b:List α},a.Perm b→a.Pairwise r→b.Pairwise r→a=b
  | [],b,h,_,_=>(List.nil_perm.1 h).symm
  | x::a,[],h,_,_=>by have:=h.length_eq; simp at this
  | x::a,y::b,h,ha,hb=>by
    obtain ⟨a1,a2⟩:=List.pairwise_cons.1 ha
    obtain ⟨b1,b2⟩:=List.pairwise_cons.1 hb
    have e:x=y:=by
      have h1:x∈y::b:=h.mem_iff.1 (by simp)
      have h2:y∈x::a:=h.mem_iff.2 (by simp)
      rcases List.mem_cons.1 h1 with h1|h1
      · exact h1
      · rcases List.mem_cons.1 h2 with h2|h2
        · exact h2.symm
        · exact anti _ _ (a1 y h2) (b1 x h1)
    subst e;rw [perm_sorted anti ((List.perm_cons x).1 h) a2 b2]
theorem RsvOK.uniq {R R' bs1 bs2:List Bk} {hs1 hs2:List Hd} (h1:RsvOK qs cs bs hs l R bs1 hs1) (h2:RsvOK qs cs bs hs l R' bs2 hs2):bs1=bs2∧hs1=hs2:=by
  have hR:R.Perm R':=(List.perm_ext_iff_of_nodup h1.rn h2.rn).2 (fun b=>by rw [h1.rm,h2.rm])
  refine ⟨perm_sorted (r:=fun x y=>cmpBk x y<0) (fun x y a b=>?_) (h1.pb.trans ((hR.append_left bs).trans h2.pb.symm)) h1.sb h2.sb,perm_sorted (r:=fun x y=>cmpHd x y≤0) (fun x y a b=>?_) (h1.ph.trans h2.ph.symm) h1.sh h2.sh⟩
  · have:=(cmpBk_lt x y).1 a
    have:=(cmpBk_lt y x).1 b
    omega
  · exact cmpHd_anti (by have:=cmpHd_neg x y; omega)
theorem RsvOK.lens {R bs1:List Bk} {hs1:List Hd} (h1:RsvOK qs cs bs hs l R bs1 hs1):bs1.length=bs.length+R.length∧hs1.length=hs.length+(holdsA cs l qs.length).length:=by
  have a:=h1.pb.length_eq
  have b:=h1.ph.length_eq
  rw [List.length_append] at a b;exact ⟨a,b⟩
theorem runs_exist (hn:(ticksS l).Nodup):∃ R:List Bk,R.Nodup∧∀ b,b∈R↔IsRun (ticksS l) b:=by
  have hp:=List.pairwise_mergeSort (le:=fun x y:Int × Int=>decide (lexT x y∨x=y)) (by
    intro a b c h1 h2
    simp only [decide_eq_true_eq] at *
    rcases h1 with h1|rfl
    · rcases h2 with h2|rfl
      · left; unfold lexT at *; omega
      · exact .inl h1
    · exact h2) (by
    intro a b
    simp only [Bool.or_eq_true,decide_eq_true_eq];unfold lexT
    by_cases e:a=b
    · exact .inl (.inr e)
    · have:a.1≠b.1∨a.2≠b.2:=by
        apply Decidable.byContradiction
        intro hh
        rw [not_or,Decidable.not_not,Decidable.not_not] at hh;exact e (Prod.ext hh.1 hh.2)
      omega) (ticksS l)
  have hperm:=List.mergeSort_perm (ticksS l) (fun x y:Int × Int=>decide (lexT x y∨x=y))
  have hn2:=hperm.nodup_iff.2 hn
  generalize (ticksS l).mergeSort (fun x y:Int × Int=>decide (lexT x y∨x=y))=K at hp hperm hn2
  have hp2:K.Pairwise lexT:=by
    refine (hp.and hn2).imp (fun {x y} hxy=>?_)
    rcases of_decide_eq_true hxy.1 with h1|h1
    · exact h1
    · exact absurd h1 hxy.2
  have hk:=(runsK_ok hp2).is
  refine ⟨runsK K,hk.2,fun b=>(hk.1 b).trans ?_⟩
  unfold IsRun;simp only [hperm.mem_iff]
def negA (cs:List Ct) (nq:Nat) (l:List Sh):Prop:=∃ n:Nat,n<nq∧negN cs n l=true
def RsvR (qs:List Int) (cs:List Ct) (bs:List Bk) (hs:List Hd) (l:List Sh) (e:Int) (bs':List Bk) (hs':List Hd):Prop:=
  (chkT qs cs bs hs≠0∧e=1∧bs'=[]∧hs'=[]) ∨
  (chkT qs cs bs hs=0∧((firstE (rsvE cs bs l) l.length≠0∧e=firstE (rsvE cs bs l) l.length∧bs'=[]∧hs'=[]) ∨
   (firstE (rsvE cs bs l) l.length=0∧((negA cs qs.length l∧e=24∧bs'=[]∧hs'=[]) ∨
    (¬ negA cs qs.length l∧∃ R bs1 hs1,RsvOK qs cs bs hs l R bs1 hs1 ∧
      ((¬ (bs1.length≤512∧hs1.length≤512)∧e=4∧bs'=[]∧hs'=[])∨((bs1.length≤512∧hs1.length≤512) ∧
        ((chkH qs cs hs1≠0∧e=15∧bs'=[]∧hs'=[])∨(chkH qs cs hs1=0∧e=0∧bs'=bs1∧hs'=hs1)))))))))
theorem RsvR.uniq {e1 e2:Int} {bs1 bs2:List Bk} {hs1 hs2:List Hd} (h1:RsvR qs cs bs hs l e1 bs1 hs1) (h2:RsvR qs cs bs hs l e2 bs2 hs2):e1=e2∧bs1=bs2∧hs1=hs2:=by
  rcases h1 with ⟨a,rfl,rfl,rfl⟩|⟨a,h1⟩ <;> rcases h2 with ⟨b,rfl,rfl,rfl⟩|⟨b,h2⟩
  · exact ⟨rfl,rfl,rfl⟩
  · exact absurd b a
  · exact absurd a b
  rcases h1 with ⟨a,rfl,rfl,rfl⟩|⟨a,h1⟩ <;> rcases h2 with ⟨b,rfl,rfl,rfl⟩|⟨b,h2⟩
  · exact ⟨rfl,rfl,rfl⟩
  · exact absurd b a
  · exact absurd a b
  rcases h1 with ⟨a,rfl,rfl,rfl⟩|⟨a,h1⟩ <;> rcases h2 with ⟨b,rfl,rfl,rfl⟩|⟨b,h2⟩
  · exact ⟨rfl,rfl,rfl⟩
  · exact absurd a b
  · exact absurd b a
  obtain ⟨R,x1,y1,k1,h1⟩:=h1
  obtain ⟨R',x2,y2,k2,h2⟩:=h2
  obtain ⟨rfl,rfl⟩:=k1.uniq k2
  rcases h1 with ⟨a,rfl,rfl,rfl⟩|⟨a,h1⟩ <;> rcases h2 with ⟨b,rfl,rfl,rfl⟩|⟨b,h2⟩
  · exact ⟨rfl,rfl,rfl⟩
  · exact absurd b a
  · exact absurd a b
  rcases h1 with ⟨u,rfl,rfl,rfl⟩|⟨u,rfl,rfl,rfl⟩ <;> rcases h2 with ⟨w,rfl,rfl,rfl⟩|⟨w,rfl,rfl,rfl⟩
  · exact ⟨rfl,rfl,rfl⟩
  · exact absurd w u
  · exact absurd u w
  · exact ⟨rfl,rfl,rfl⟩
end
section
variable {qs:List Int} {cs:List Ct} {bs:List Bk} {hs:List Hd} {d:Dm} {l:List Sh} {v:Int}
end
end Go.Step
namespace Go.Proofs.YtjehnjhkcmobcaaGreat
open Go.Eng Go.Step
set_option maxRecDepth 100000
set_option maxHeartbeats 64000000
theorem used_next2 {x y:Sh} {M:List (List Int × Value)} {a:Bool} (h:mgetS [x.c,x.t] M=if a then some (.bool true) else none):mgetS [x.c,x.t] (msetS [y.c,y.t] (.bool true) M)=if (a || sameSl x y) then some (.bool true) else none:=by
 rw [mgetS_mset,h];unfold sameSl
 by_cases e:x.c=y.c∧x.t=y.t
 ·rw [decide_eq_true e,Bool.or_true,if_pos rfl,if_pos (by rw [e.1,e.2])]
 ·rw [decide_eq_false e,Bool.or_false,if_neg (fun k=>e (by simpa using k))]
theorem any_take2 {α:Type} (p:α→Bool) {l:List α} {k:Nat} (h:k<l.length):(l.take (k+1)).any p=((l.take k).any p || p l[k]):=by
 rw [List.take_succ_eq_append_getElem h,List.any_append]
 simp
theorem busyFn_spec (b7:Nat) (x:Sh) (s:Int × Int) :
  Ans Tryz.prog (.func (.func 82) #[] #[.pointer (some ⟨b7,0,none⟩)]) [.agg (encS s).toArray] [sng b7 (.cells #[int x.c,int x.t,int x.n] 62 (0,0))] (fun r=>r=.bool (decide (s.1≤x.t) && decide (x.t<s.2))):=by
 have bx24_3:=rdB b7 62 [int x.c,int x.t,int x.n]
 have cx1:=rdC bx24_3 1
 refine spec_in (cap:=[.pointer (some ⟨b7,0,none⟩)]) Tryz.func82 rfl rfl Tryz.ntmps82 rfl envZ (fun N β=>?_)
 refine Aa ?_;refine BH (BO rfl) rfl rfl rfl ?_;rintro _ _ ⟨b2,rfl,rfl⟩;refine AW (ρ:=sng b2 _) takeZ ?_
 have cs_:=rdB b2 152 [int s.1,int s.2]
 have cs_0:=rdC cs_ 0
 have cs_1:=rdC cs_ 1
 by_cases h1:s.1≤x.t
 ·rw [decide_eq_true h1]
  by_cases h2:x.t<s.2
  ·rw [decide_eq_true h2]
   refine Aef ?_;refine C9 ?_;refine Abj ?_;refine BD ?_;refine Acs ?_;exact A3 ⟨rfl,rfl⟩
  ·rw [decide_eq_false h2]
   refine Aef ?_;refine C9 ?_;refine Abj ?_;refine A0 ?_;refine Acs ?_;exact A3 ⟨rfl,rfl⟩
 ·rw [decide_eq_false h1]
  refine Aef ?_;refine DB ?_;refine Afe ?_;refine Aaa ?_;exact A3 ⟨rfl,rfl⟩
theorem pCheckSh_spec {ρ τ σ υ:PH} (ω:PH) {pq pc pb ph:Option Addr} {kq kc kb kh:Nat} {qs:List Int} {cs:List Ct} {bs:List Bk} {hs:List Hd} (hT:TbAt ρ τ σ υ pq pc pb ph kq kc kb kh qs cs bs hs) (v:Value) (l:List Sh) (hv:ShAt ω v l) (hll:l.length≤1000000) (hbl:bs.length≤1000) :
  Ans Tryz.prog (fv 34) [.agg #[.slice pq qs.length kq,.slice pc cs.length kc,.slice pb bs.length kb,.slice ph hs.length kh],v] [ρ,τ,σ,υ,ω] (fun r=>r=int (firstE (rsvE cs bs l) l.length)):=by
 obtain ⟨q,cc,rfl,hr⟩:=hv.val encX_len
 have hrc:=hT.rc
 refine spec_in (cap:=[]) Tryz.func34 rfl rfl Tryz.ntmps34 rfl envZ (fun N β=>?_)
 refine Aa ?_;refine BH (BO rfl) rfl rfl rfl ?_;rintro _ _ ⟨b1,rfl,rfl⟩;refine AW (ρ:=sng b1 _) takeZ ?_
 have ct:=rdB b1 29 [.slice pq qs.length kq,.slice pc cs.length kc,.slice pb bs.length kb,.slice ph hs.length kh]
 have ct0:=rdC ct 0
 have ct1:=rdC ct 1
 have ct2:=rdC ct 2
 have ct3:=rdC ct 3
 have ctp:=rdQ (xs:=[_,_]) ct
 refine Afa ?_
 focus ((refine' BH _ rfl rfl rfl _; rotate_left; (exact EZ); rintro _ _ ⟨b,rfl,rfl⟩))
 refine Af2 ?_
 revert b; intro bm
 refine BA [2,5,11,12] (X:=Nat × List (List Int × Value)) (0,[]) (fun x=>x.1≤l.length∧firstE (rsvE cs bs l) x.1=0∧(∀ e∈x.2,e.1.length=2)∧∀ y:Sh,mgetS [y.c,y.t] x.2=if (l.take x.1).any (sameSl y) then some (.bool true) else none) (fun x=>[(13,int x.1)]) (fun x=>[sng bm (mapS x.2)]) (fun x=>l.length-x.1) pickZ ⟨by dsimp only; omega,rfl,by simp,fun y=>rfl⟩ covZ selZ ?_
 rintro ⟨k,M⟩ ⟨hk,hI,hM2,hM⟩
 dsimp only at hk hI hM2 hM ⊢
 by_cases hlt:k<l.length
 rotate_left
 ·have hke:k=l.length:=by omega
  subst hke;refine Acd ?_;refine Aai ?_
  exact AO (res1 rfl rfl) rsubZ selZ ⟨rfl,by rw [hI]⟩
 have hx:=List.getElem?_eq_getElem hlt
 have hnx:=fun y=>any_take2 (sameSl y) hlt
 have hE:=rsvE_at (cs:=cs) (bs:=bs) hx
 obtain ⟨b6,o6,rfl,hrx,x0,x1,x2⟩:=shRow hr hx
 generalize l[k]=x at hrx x0 x1 x2 hnx hE
 clear x0 x1 x2
 have hhit:=fun (e:Int) (he:e≠0) (hE:rsvE cs bs l k=e)=>(firstE_hit hI (by rw [hE]; exact he) _ hlt).trans hE
 have hbad:∀ e:Int,e≠0→rsv1 cs x=e→firstE (rsvE cs bs l) l.length=e:=fun e he h=>hhit e he (by rw [hE,if_pos (by rw [h]; exact he),h])
 have hr0:rsv1 cs x=if x.c<0∨(cs.length:Int)≤x.c then 2 else match cs[x.c.toNat]? with
  | none=>2
  | some c=>if x.t<c.s∨c.e≤x.t∨x.n<1∨c.r<x.n then 2 else 0:=rfl
 obtain ⟨xc,xt,xn⟩:=x
 dsimp only at hrx hr0 hE hnx
 refine Ac4 ?_;refine A4 ?_; rintro _ _ ⟨b,rfl,rfl⟩;refine AY ?_; rintro _ _ ⟨rfl,rfl⟩;refine Af9 ?_
 revert b; intro b7
 by_cases h0:xc<0
 ·have hh:=hbad 2 (by decide) (by rw [hr0,if_pos (.inl h0)])
  rw [hh];refine BD ?_;refine Abs ?_;refine Abx ?_;refine Aba ?_;exact A3 ⟨rfl,rfl⟩
 by_cases h1:(cs.length:Int)≤xc
 ·have hh:=hbad 2 (by decide) (by rw [hr0,if_pos (.inr h1)])
  rw [hh];refine Adk ?_;refine Acx ?_;refine CX ?_;refine Aeo ?_;exact A3 ⟨rfl,rfl⟩
 obtain ⟨i,hi⟩:=Int.eq_ofNat_of_zero_le (show 0≤xc by omega)
 have hil:i<cs.length:=by omega
 have hy:=List.getElem?_eq_getElem hil
 have hr1:rsv1 cs ⟨xc,xt,xn⟩=if xt<cs[i].s∨cs[i].e≤xt∨xn<1∨cs[i].r<xn then 2 else 0:=by
  rw [hr0,if_neg (by omega),hi,Int.toNat_natCast,hy]
 obtain ⟨b9,o9,ec,hrd9⟩:=ctRow hrc hy
 generalize cs[i]=y at hy hr1 hrd9
 subst hi;subst ec
 by_cases h2:xt<y.s∨y.e≤xt∨xn<1∨y.r<xn
 ·rw [if_pos h2] at hr1
  rw [hbad 2 (by decide) hr1]
  by_cases k1:xt<y.s
  ·refine A0 ?_
   refine Aaj ?_;refine Agb ?_;refine A4 ?_; rintro _ _ ⟨b,rfl,rfl⟩;refine AY ?_; rintro _ _ ⟨rfl,rfl⟩;refine Afg ?_;refine BD ?_;refine Ad2 ?_;refine Acq ?_;refine Aft ?_;exact A3 ⟨rfl,rfl⟩
  by_cases k2:y.e≤xt
  ·refine A0 ?_
   refine Aaj ?_;refine Agb ?_;refine A4 ?_; rintro _ _ ⟨b,rfl,rfl⟩;refine AY ?_; rintro _ _ ⟨rfl,rfl⟩;refine Ahe ?_;refine CX ?_;refine AN ?_;refine Acq ?_;refine Aft ?_;exact A3 ⟨rfl,rfl⟩
  by_cases k3:xn<1
  ·refine A0 ?_
   refine Aaj ?_;refine Agb ?_;refine A4 ?_; rintro _ _ ⟨b,rfl,rfl⟩;refine AY ?_; rintro _ _ ⟨rfl,rfl⟩;refine Ahe ?_;refine Ab7 ?_;refine BD ?_;refine AN ?_;refine Aft ?_;exact A3 ⟨rfl,rfl⟩
  have k4:y.r<xn:=by omega
  refine Adk ?_;refine Agb ?_;refine A4 ?_; rintro _ _ ⟨b,rfl,rfl⟩;refine AY ?_; rintro _ _ ⟨rfl,rfl⟩;refine Ahe ?_;refine Ahc ?_;refine Aad ?_;refine Ag0 ?_;exact A3 ⟨rfl,rfl⟩
 rw [if_neg h2] at hr1
 rw [if_neg (fun hh=>hh hr1)] at hE
 have k1:¬ xt<y.s:=by omega
 have k2:¬ y.e≤xt:=by omega
 have k3:¬ xn<1:=by omega
 have k4:¬ y.r<xn:=by omega
 have hbz:=busy_spec σ _ bs (i:Int) hT.hb hbl
 refine Adk ?_;refine Agb ?_;refine A4 ?_; rintro _ _ ⟨b,rfl,rfl⟩;refine AY ?_; rintro _ _ ⟨rfl,rfl⟩;refine Ahe ?_;refine Ahc ?_;refine Aad ?_;refine Aei ?_;refine Ab4 ?_
 revert b; intro b8
 refine BV hbz rfl rfl rdZ rfl rfl ?_;rintro w χb hOb
 have hSb:SpAt χb w (busyL bs i):=hOb.at
 obtain ⟨pw,kw,rfl⟩:=hOb.form
 have hbll:=busyL_len bs i
 refine Aaa ?_;refine Ac9 ?_;refine Aad ?_;refine BY ?_
 refine CW (FL 2 [(i:Int),xt] (l:=M) (z:=.bool false) rfl rfl rfl ⟨by kernel_rfl,by kernel_rfl⟩ rfl hM2 rfl (mapAtS_own memZ)) rfl rfl rfl ?_
 have hMx:=hM ⟨i,xt,xn⟩
 dsimp only at hMx
 rw [hMx]
 cases hany:(l.take k).any (sameSl ⟨i,xt,xn⟩) with
 | true =>
  rw [hany,Bool.true_or,if_pos rfl] at hE
  rw [hhit 14 (by decide) hE,if_pos rfl,Option.getD_some]
  refine Ae6 ?_;exact A3 ⟨rfl,rfl⟩
 | false =>
 rw [hany,Bool.false_or] at hE
 rw [if_neg (by simp),Option.getD_none]
 refine Aao ?_;refine CL ?_
 have hct:=contS_spec χb [sng b7 (.cells #[int i,int xt,int xn] 62 (0,0))] _ (.func (.func 82) #[] #[.pointer (some ⟨b7,0,none⟩)]) (busyL bs i) (fun s=>decide (s.1≤xt) && decide (xt<s.2)) hSb (by omega) (fun j s _=>busyFn_spec b7 ⟨i,xt,xn⟩ s)
 have hbk:(busyL bs i).any (fun s=>decide (s.1≤xt) && decide (xt<s.2))=bookedB bs i xt:=rfl
 rw [hbk] at hct;refine BC hct rfl rfl rdZ rfl rfl ?_;rintro _ rfl
 cases hbb:bookedB bs i xt with
 | true =>
  rw [hbb,if_pos rfl] at hE
  rw [hhit 14 (by decide) hE]
  refine Aeo ?_;exact A3 ⟨rfl,rfl⟩
 | false =>
 rw [hbb,if_neg (by simp)] at hE
 refine Abn ?_;refine AA ?_;refine Abj ?_;refine BY ?_
 refine CI (EI 2 [(i:Int),xt] (v:=.bool true) (l:=M) rfl rfl rfl rfl ⟨by kernel_rfl,by kernel_rfl⟩ rfl hM2 takeZ) rfl rfl ?_
 rintro _ _ ⟨rfl,rfl⟩;refine Ae9 ?_
 refine AT (k+1,_) ⟨by dsimp only; omega,firstE_ok hI hE,msetS_len rfl hM2,fun z=>?_⟩ (by dsimp only; omega) covZ selZ
 dsimp only
 rw [hnx z];exact used_next2 (x:=z) (y:=⟨i,xt,xn⟩) (hM z)
end Go.Proofs.YtjehnjhkcmobcaaGreat
namespace Go.Eng
open Go.ChangeMaps (setBlock)
variable {C:Cx} {D:List Deferred} {R H:List PH} {L:Env} {K:List It}
variable {dst:Option Tmp} {ty:TypeId} {pos:String} {aft:Array Edge} {g:Option (Nat × Bool)}
def iterO (b n:Nat) (seen:Array Nat):Obj:=.mapIter (some b) n seen n
theorem mem_ents {e:MapEntry}:∀ {l:List (Int × Int)} {j:Nat},e∈ents j l↔∃ i,∃ h:i<l.length,e=⟨int l[i].1,int l[i].2,j+i⟩
  | [],j=>by simp [ents]
  | kv::l,j=>by
    simp only [ents,List.mem_cons];rw [mem_ents (l:=l) (j:=j+1)]
    constructor
    · rintro (rfl|⟨i,h,rfl⟩)
      · exact ⟨0,by simp,rfl⟩
      · exact ⟨i+1,by simpa using h,by simp; omega⟩
    · rintro ⟨i,h,rfl⟩
      cases i with
      | zero=>exact .inl rfl
      | succ i=>exact .inr ⟨i,by simpa using h,by simp; omega⟩
theorem ents_born:∀ (l:List (Int × Int)) (j:Nat),(ents j l).map (·.born)=List.range' j l.length
  | [],_=>rfl
  | _::l,j=>by simp only [ents,List.map_cons,List.length_cons,List.range'_succ]; rw [ents_born l (j+1)]
theorem mem_left {e:MapEntry} {l:List (Int × Int)} {seen:Array Nat}:e∈(leftOf (ents 0 l).toArray seen).toList↔∃ i,∃ h:i<l.length,e=⟨int l[i].1,int l[i].2,i⟩∧i∉seen:=by
  unfold leftOf;rw [Array.mem_toList_iff,Array.mem_filter,List.mem_toArray,mem_ents]
  constructor
  · rintro ⟨⟨i,h,rfl⟩,h2⟩
    refine ⟨i,h,by rw [Nat.zero_add],?_⟩
    simpa using h2
  · rintro ⟨i,h,rfl,h2⟩
    exact ⟨⟨i,h,by rw [Nat.zero_add]⟩,by simpa using h2⟩
theorem HN {t kt et:TypeId} {x:Operand} {b:Nat} {l:List (Int × Int)} (h:evalE L x=some (.map (some b))) (ht:C.P.underlying t=some (.map kt et)) (hm:MapAt C.N R H b l) :
    Loud C R H L ⟨dst,.range t x,ty,pos,aft,g⟩ (fun v H'=>∃ r,v=.pointer (some ⟨r,0,none⟩)∧H'=sng r (iterO b l.length #[])::H):=by
  refine ⟨fun a w hx hs next Q hn=>?_⟩
  have e1:=hx x (by simp [Op.operands]) _ h
  have hg:=hm w hs
  refine wpIn_value (v:=.pointer (some ⟨w.heap.size,0,none⟩)) (w':=w.alloc (iterO b l.length #[])) (by intro c; simp) ?_ (hn _ _ _ ⟨_,rfl,rfl⟩ (hs.alloc _))
  simp [execOp,e1,Instr.range,Go.underlying,Sem.run,ht,getObj,hg,mapO,newObj,iterO]
theorem l_next {x:Operand} {r b:Nat} {l:List (Int × Int)} {seen:Array Nat} {H':List PH} (h:evalE L x=some (.pointer (some ⟨r,0,none⟩))) (hm:MapAt C.N R H b l) (ht:Take (sng r (iterO b l.length seen)) H H') :
    Loud C R H L ⟨dst,.next x false,ty,pos,aft,g⟩ (fun v H2=>((∀ i,i<l.length→i∈seen)∧v=.tuple #[.bool false]∧H2=sng r (iterO b l.length seen)::H')∨(∃ i,∃ hi:i<l.length,i∉seen∧v=.tuple #[.bool true,int l[i].1,int l[i].2]∧H2=sng r (iterO b l.length (seen.push i))::H')):=by
  refine ⟨fun a w hx hs next Q hnx=>?_⟩
  have e1:=hx x (by simp [Op.operands]) _ h
  have hg:=hm w hs
  have hr:=hs.own ht
  have hold:∀ z∈(ents 0 l).toArray.toList,z.born<l.length:=fun z hz=>by
    obtain ⟨i,hi,rfl⟩:=mem_ents.1 (by simpa using hz)
    dsimp only
    omega
  rcases run_next_at (P:=C.P) w ty r b l.length l.length seen (ents 0 l).toArray l.length hr hg hold (Nat.le_refl _) with ⟨h0,hrun⟩|⟨e,he,w1,hal,hrun⟩
  · refine wpIn_value (v:=.tuple #[.bool false]) (w':=w) (by intro c; simp) ?_ (hnx _ _ _ (.inl ⟨fun i hi=>?_,rfl,rfl⟩) (hs.take ht))
    · simp [execOp,e1,hrun]
    · apply Decidable.byContradiction
      intro hn
      have:=mem_left.2 ⟨i,hi,rfl,hn⟩
      rw [Array.eq_empty_of_size_eq_zero h0] at this
      simp at this
  · obtain ⟨i,hi,rfl,hn⟩:=mem_left.1 he
    have hs1:Sat C.N R H w1:=by
      rcases hal with rfl|rfl
      · exact hs
      · exact hs.drew
    have hr1:=hs1.own ht
    refine wpIn_value (v:=.tuple #[.bool true,int l[i].1,int l[i].2]) (w':=setBlock w1 r (.mapIter (some b) l.length (seen.push i) l.length)) (by intro c; simp) ?_ (hnx _ _ _ (.inr ⟨i,hi,hn,rfl,rfl⟩) (hs1.turn ht ?_ ?_ ?_))
    · simp [execOp,e1,hrun]
    · simp [setBlock]
    · have:r<w1.heap.size:=(Array.getElem?_eq_some_iff.1 hr1).1
      simp [setBlock,this,iterO]
    · intro k hk; simp [setBlock,Array.getElem?_setIfInBounds,Ne.symm hk]
structure Came (l:List (Int × Int)) (seen:Array Nat) (done:List (Int × Int)):Prop where
  nd:seen.toList.Nodup
  lt:∀ i∈seen.toList,i<l.length
  eq:done=seen.toList.map (fun i=>l.getD i (0,0))
theorem Came.nil (l:List (Int × Int)):Came l #[] []:=⟨by simp,by simp,by simp⟩
theorem Came.push {l:List (Int × Int)} {seen:Array Nat} {done:List (Int × Int)} (h:Came l seen done) {i:Nat} (hi:i<l.length) (hn:i∉seen):Came l (seen.push i) (done ++ [l[i]]):=by
  refine ⟨?_,fun j hj=>?_,?_⟩
  · rw [Array.toList_push,List.nodup_append]
    refine ⟨h.nd,by simp,fun a ha b hb=>?_⟩
    rw [List.mem_singleton] at hb;subst hb
    intro e
    subst e
    exact hn (by simpa using ha)
  · rw [Array.toList_push,List.mem_append,List.mem_singleton] at hj
    rcases hj with hj|rfl
    · exact h.lt j hj
    · exact hi
  · rw [Array.toList_push,List.map_append,← h.eq]
    simp [List.getD_eq_getElem?_getD,hi]
theorem Came.len {l:List (Int × Int)} {seen:Array Nat} {done:List (Int × Int)} (h:Came l seen done):done.length=seen.size∧seen.size≤l.length:=by
  refine ⟨by rw [h.eq]; simp,?_⟩
  have h1:seen.toList.Perm ((List.range l.length).filter (fun i=>decide (i∈seen.toList))):=(List.perm_ext_iff_of_nodup h.nd (List.nodup_range.filter _)).2 (fun i=>by
    rw [List.mem_filter,List.mem_range,decide_eq_true_eq]
    exact ⟨fun hi=>⟨h.lt i hi,hi⟩,fun hi=>hi.2⟩)
  have h2:=h1.length_eq
  have h3:=List.length_filter_le (fun i=>decide (i∈seen.toList)) (List.range l.length)
  rw [List.length_range] at h3;rw [Array.length_toList] at h2;omega
theorem Came.all {l:List (Int × Int)} {seen:Array Nat} {done:List (Int × Int)} (h:Came l seen done) (ha:∀ i,i<l.length→i∈seen):done.Perm l:=by
  have hp:seen.toList.Perm (List.range l.length):=(List.perm_ext_iff_of_nodup h.nd List.nodup_range).2 (fun i=>by
    rw [List.mem_range]
    exact ⟨h.lt i,fun hi=>by simpa using ha i hi⟩)
  rw [h.eq];refine (hp.map _).trans (List.Perm.of_eq ?_)
  apply List.ext_getElem?
  intro i
  rw [List.getElem?_map]
  by_cases hi:i<l.length
  · rw [List.getElem?_range hi]
    simp [List.getD_eq_getElem?_getD,hi]
  · rw [List.getElem?_eq_none (by simp; omega),List.getElem?_eq_none (by omega)]
    rfl
end Go.Eng
namespace Go.Eng
variable {C:Cx} {D:List Deferred} {R H:List PH} {L:Env} {K:List It}
variable {dst:Option Tmp} {ty:TypeId} {pos:String} {aft:Array Edge} {g:Option (Nat × Bool)}
theorem HO {x:Operand} {r b i:Nat} {l:List (Int × Int)} {seen:Array Nat} (h:evalE L x=some (.pointer (some ⟨r,0,none⟩))) (hm:MapAt C.N R H b l) (ht:Mem (sng r (iterO b l.length (seen.push i))) H) (hi:i<l.length) :
    Quiet C R H L ⟨dst,.entry x,ty,pos,aft,g⟩ (.tuple #[int l[i].1,int l[i].2]):=
  ⟨by intro c; simp,fun a w hx hs=>by
    have e1:=hx x (by simp [Op.operands]) _ h
    have hr:=hs.h _ ht.mem r _ (sng_self r _)
    have he:(⟨int l[i].1,int l[i].2,i⟩:MapEntry)∈(ents 0 l).toArray.toList:=by
      have:=mem_ents (l:=l) (j:=0) (e:=⟨int l[i].1,int l[i].2,i⟩)
      exact this.2 ⟨i,hi,by rw [Nat.zero_add]⟩
    have:=run_entry_at (P:=C.P) w r b l.length seen (ents 0 l).toArray l.length ⟨int l[i].1,int l[i].2,i⟩ hr (hm w hs) he (by rw [show (ents 0 l).toArray.toList=ents 0 l from rfl,ents_born]; exact List.nodup_range')
    simp [execOp,e1,this]⟩
end Go.Eng
namespace Go.Step
theorem spL_snoc:∀ (g:List Lv) (x y:Lv),spL (g ++ [x,y])=spL (g ++ [x]) ++ (if 0<x.v then [((x.a,y.a),x.v)] else [])
  | [],x,y=>by
    simp only [List.nil_append];unfold spL
    split <;> simp [spL]
  | [z],x,y=>by
    simp only [List.cons_append,List.nil_append];unfold spL;simp only [List.append_assoc]
    congr 1
    unfold spL
    split <;> simp [spL]
  | z::w::g,x,y=>by
    have ih:=spL_snoc (w::g) x y
    simp only [List.cons_append] at ih ⊢
    conv=>lhs; unfold spL
    conv=>rhs; unfold spL
    rw [ih,List.append_assoc]
theorem spL_next {f:List Lv} {k:Nat} {x y:Lv} (h1:f[k]?=some x) (h2:f[k+1]?=some y):spL (f.take (k+2))=spL (f.take (k+1)) ++ (if 0<x.v then [((x.a,y.a),x.v)] else []):=by
  obtain ⟨a1,rfl⟩:=List.getElem?_eq_some_iff.1 h1
  obtain ⟨a2,rfl⟩:=List.getElem?_eq_some_iff.1 h2
  rw [List.take_succ_eq_append_getElem a2,List.take_succ_eq_append_getElem a1,List.append_assoc];exact spL_snoc _ _ _
theorem spL_len:∀ (f:List Lv),(spL f).length≤f.length
  | []=>by simp [spL]
  | [x]=>by simp [spL]
  | x::y::f=>by
    have:=spL_len (y::f)
    unfold spL;rw [List.length_append];simp only [List.length_cons] at this ⊢
    split <;> simp <;> omega
theorem vat_mid {f:List Lv} {c t:Int} (hp:f.Pairwise (fun x y=>x.a<y.a)) {k:Nat} {x:Lv} (h:f[k]?=some x) (h1:x.a≤t) (h2:∀ y,f[k+1]?=some y→t<y.a):vat c f t=x.v:=by
  obtain ⟨hk,rfl⟩:=List.getElem?_eq_some_iff.1 h
  have e:f=f.take (k+1) ++ f.drop (k+1):=(List.take_append_drop _ _).symm
  have hlo:∀ z∈f.take (k+1),z.a≤t:=fun z hz=>by
    obtain ⟨i,hi,rfl⟩:=List.mem_take_iff_getElem.1 hz
    by_cases hik:i=k
    · subst hik; exact h1
    · have:=(List.pairwise_iff_getElem.1 hp) i k (by omega) hk (by omega)
      omega
  conv=>lhs; rw [e]
  rw [vat_append _ _ _ _ hlo,vat_late]
  · rw [List.take_succ_eq_append_getElem hk]
    exact vat_last _ _ _ _ (fun z hz=>hlo z (by rw [List.take_succ_eq_append_getElem hk]; exact List.mem_append.2 (.inl hz))) h1
  · intro l hl
    rw [List.head?_drop] at hl;exact h2 l hl
theorem lvN_step {cs:List Ct} {n:Int} {l:List Sh} {k:Nat} {x:Lv} (h:(lvN cs n l)[k]?=some x):x.v=(if k=0 then 0 else ((lvN cs n l).getD (k-1) ⟨0,0⟩).v)+chgS cs n x.a l:=by
  obtain ⟨h1,h2,h3⟩:=lvN_ok cs n l
  have hx:=((h2 x).1 (List.mem_of_getElem? h)).1
  have hst:=haveS_step cs n x.a l
  rw [← h3 (x.a-1)] at hst
  obtain ⟨hk,e⟩:=List.getElem?_eq_some_iff.1 h
  by_cases h0:k=0
  · subst h0
    rw [if_pos rfl]
    have:val (lvN cs n l) (x.a-1)=0:=by
      unfold val
      refine vat_late _ _ _ (fun y hy=>?_)
      rw [List.head?_eq_getElem?,h] at hy
      obtain rfl:=Option.some.inj hy
      omega
    omega
  · rw [if_neg h0]
    have hk1:k-1<(lvN cs n l).length:=by omega
    have hg:(lvN cs n l).getD (k-1) ⟨0,0⟩=(lvN cs n l)[k-1]:=by rw [List.getD_eq_getElem?_getD,List.getElem?_eq_getElem hk1]; rfl
    have hlt:=(List.pairwise_iff_getElem.1 h1) (k-1) k hk1 hk (by omega)
    have:val (lvN cs n l) (x.a-1)=(lvN cs n l)[k-1].v:=by
      unfold val
      refine vat_mid h1 (List.getElem?_eq_getElem hk1) (by rw [e] at hlt; omega) (fun y hy=>?_)
      rw [show k-1+1=k by omega,h] at hy
      obtain rfl:=Option.some.inj hy
      omega
    rw [hg];omega
theorem lvN_times {cs:List Ct} {n:Int} {l:List Sh} {T:List Int} (hT:T.Pairwise (· < ·)) (hm:∀ t,t∈T↔chgS cs n t l≠0):(lvN cs n l).map (fun x=>x.a)=T:=by
  obtain ⟨h1,h2,h3⟩:=lvN_ok cs n l
  refine SA.unique (List.pairwise_map.2 h1) hT (fun t=>?_)
  rw [hm,List.mem_map]
  constructor
  · rintro ⟨x,hx,rfl⟩
    exact ((h2 x).1 hx).2
  · intro h
    exact ⟨⟨t,haveS cs n t l⟩,(h2 _).2 ⟨rfl,h⟩,rfl⟩
theorem chg_evs {cs:List Ct} {n t:Int} {l:List Sh} (h:t∉evsN cs n l):chgS cs n t l=0:=by
  have h1:=haveS_step cs n t l
  have h2:=haveS_same (cs:=cs) (n:=n) (a:=t-1) (b:=t) (l:=l) (by omega) (fun u hu hh=>h (by rw [show t=u by omega]; exact hu))
  omega
theorem lvN_len (cs:List Ct) (n:Int) (l:List Sh):(lvN cs n l).length≤2*l.length:=by
  have h1:=comb_len (fun t=>haveS cs n t l) (evtN cs n l) 0
  have h2:(evtN cs n l).length≤(evsN cs n l).length:=by
    unfold evtN
    have:=Go.Lib.compact_length_le ((evsN cs n l).mergeSort fun x y=>decide (x≤y))
    rwa [List.length_mergeSort] at this
  have h3:∀ l:List Sh,(evsN cs n l).length≤2*l.length:=fun l=>by
    induction l with
    | nil=>simp [evsN]
    | cons x l ih =>
      have e:evsN cs n (x::l)=((if (ctOf cs x).f=n then [x.t] else []) ++ (if (ctOf cs x).t=n then [arrOf cs x] else [])) ++ evsN cs n l:=rfl
      rw [e,List.length_append,List.length_append,List.length_cons]
      have h1:(if (ctOf cs x).f=n then [x.t] else []).length≤1:=by split <;> simp
      have h2:(if (ctOf cs x).t=n then [arrOf cs x] else []).length≤1:=by split <;> simp
      omega
  have:=h3 l
  unfold lvN;omega
theorem have1_bd (cs:List Ct) (n t:Int) (x:Sh) (h:0≤x.n∧x.n≤1000):-1000≤have1 cs n t x∧have1 cs n t x≤1000:=by
  unfold have1
  split <;> split <;> omega
theorem haveS_bd (cs:List Ct) (n t:Int):∀ (l:List Sh),(∀ x∈l,0≤x.n∧x.n≤1000) → -(1000*(l.length:Int))≤haveS cs n t l∧haveS cs n t l≤1000*l.length
  | [],_=>by simp [haveS,lsum]
  | x::l,h=>by
    have ih:=haveS_bd cs n t l (fun y hy=>h y (by simp [hy]))
    have:=have1_bd cs n t x (h x (by simp))
    have e:haveS cs n t (x::l)=have1 cs n t x+haveS cs n t l:=rfl
    rw [e];simp only [List.length_cons]
    push_cast
    omega
theorem chg1_bd (cs:List Ct) (n t:Int) (x:Sh) (h:0≤x.n∧x.n≤1000):-1000≤chg1 cs n t x∧chg1 cs n t x≤1000:=by
  unfold chg1
  split <;> split <;> omega
theorem chgS_bd (cs:List Ct) (n t:Int):∀ (l:List Sh),(∀ x∈l,0≤x.n∧x.n≤1000) → -(1000*(l.length:Int))≤chgS cs n t l∧chgS cs n t l≤1000*l.length
  | [],_=>by simp [chgS,lsum]
  | x::l,h=>by
    have ih:=chgS_bd cs n t l (fun y hy=>h y (by simp [hy]))
    have:=chg1_bd cs n t x (h x (by simp))
    have e:chgS cs n t (x::l)=chg1 cs n t x+chgS cs n t l:=rfl
    rw [e];simp only [List.length_cons]
    push_cast
    omega
theorem netS_snoc (cs:List Ct) (n:Int) {l:List Sh} {k:Nat} {x:Sh} (h:l[k]?=some x):netS cs n (l.take (k+1))=netS cs n (l.take k)+net1 cs n x:=by
  obtain ⟨hk,rfl⟩:=List.getElem?_eq_some_iff.1 h
  unfold netS;rw [List.take_succ_eq_append_getElem hk,lsum_append]
  simp [lsum]
theorem evsN_snoc (cs:List Ct) (n:Int) {l:List Sh} {k:Nat} {x:Sh} (h:l[k]?=some x):evsN cs n (l.take (k+1))=evsN cs n (l.take k) ++ ((if (ctOf cs x).f=n then [x.t] else []) ++ (if (ctOf cs x).t=n then [arrOf cs x] else [])):=by
  obtain ⟨hk,rfl⟩:=List.getElem?_eq_some_iff.1 h
  unfold evsN;rw [List.take_succ_eq_append_getElem hk,List.flatMap_append]
  simp
theorem net1_bd (cs:List Ct) (n:Int) (x:Sh) (h:0≤x.n∧x.n≤1000):-1000≤net1 cs n x∧net1 cs n x≤1000:=by
  unfold net1
  split <;> split <;> omega
theorem netS_bd (cs:List Ct) (n:Int):∀ (l:List Sh),(∀ x∈l,0≤x.n∧x.n≤1000) → -(1000*(l.length:Int))≤netS cs n l∧netS cs n l≤1000*l.length
  | [],_=>by simp [netS,lsum]
  | x::l,h=>by
    have ih:=netS_bd cs n l (fun y hy=>h y (by simp [hy]))
    have:=net1_bd cs n x (h x (by simp))
    have e:netS cs n (x::l)=net1 cs n x+netS cs n l:=rfl
    rw [e];simp only [List.length_cons]
    push_cast
    omega
end Go.Step
