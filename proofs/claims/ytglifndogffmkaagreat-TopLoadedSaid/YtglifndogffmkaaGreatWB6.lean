/- Texts of this proof, one after the other; no conditions. -/
import Derived.WideKeyRuns
import Derived.Test.YtglifndogffmkaaGreatWB4
import Derived.Test.YtglifndogffmkaaGreatWB5
import Derived.Test.YtglifndogffmkaaGreatWB2
import Derived.Test.YtglifndogffmkaaGreatWB3
set_option linter.all false
/- Time-expanded networks. No program in sight. No conditions. -/
namespace Go.Step
open Go.Flow (capOf chk okArc okArc_iff)
abbrev Arc:=Go.Flow.Arc
structure VOk (qs:List Int) (cs:List Ct) (bs:List Bk) (hs:List Hd) (d:Dm):Prop where
  ct:∀ c∈cs,(0≤c.f∧c.f<qs.length)∧(0≤c.t∧c.t<qs.length)∧(0≤c.s∧c.s<c.e∧c.e≤1099511627776)∧(1≤c.r∧c.r≤1000)∧(1≤c.g∧c.g≤1048576)
  nb:bs.length≤512
  bk:firstE (bkE cs bs) bs.length=0
  hd:∀ x∈hs,okHd qs.length x
  nh:hs.length≤512
  fit:fitB qs hs=true
  nq:1≤qs.length∧qs.length≤16
  quo:∀ (j:Nat) (q:Int),qs[j]?=some q→0≤q∧q≤1073741824
  dm:okDm qs.length d
  nc:cs.length≤64
def wd (d:Dm):Int:=d.e-d.r+1
def vtx (d:Dm) (n t:Int):Int:=n*wd d+(t-d.r)
theorem vtx_div {d:Dm} {n t:Int} (h1:d.r≤t) (h2:t≤d.e):vtx d n t / wd d=n:=by
  unfold vtx
  have hw:wd d≠0:=by unfold wd; omega
  rw [Int.add_comm,Int.add_mul_ediv_right _ _ hw,Int.ediv_eq_zero_of_lt (by omega) (by unfold wd; omega),Int.zero_add]
theorem vtx_mod {d:Dm} {n t:Int} (h1:d.r≤t) (h2:t≤d.e):vtx d n t % wd d=t-d.r:=by
  unfold vtx
  rw [Int.add_comm,Int.add_mul_emod_self_right,Int.emod_eq_of_lt (by omega) (by unfold wd; omega)]
theorem vtx_inj {d:Dm} {n t m u:Int} (h1:d.r≤t) (h2:t≤d.e) (h3:d.r≤u) (h4:u≤d.e) (h:vtx d n t=vtx d m u):n=m∧t=u:=by
  have a:=vtx_div (n:=n) h1 h2
  have b:=vtx_mod (n:=n) h1 h2
  rw [h] at a b;rw [vtx_div h3 h4] at a;rw [vtx_mod h3 h4] at b;omega
theorem vtx_next (d:Dm) (n t:Int):vtx d n (t+1)=vtx d n t+1:=by unfold vtx; omega
theorem vtx_lt {d:Dm} {n t:Int} {N:Nat} (h1:0≤n) (h2:n<N) (h3:d.r≤t) (h4:t≤d.e):0≤vtx d n t∧vtx d n t<N*wd d:=by
  have hw:0≤wd d:=by unfold wd; omega
  have a:=Int.mul_nonneg h1 hw
  have b:=Int.mul_le_mul_of_nonneg_right (show n+1≤(N:Int) by omega) hw
  rw [Int.add_mul,Int.one_mul] at b;unfold vtx
  have e:wd d=d.e-d.r+1:=rfl
  omega
structure EA where
  a:Arc
  c:Int
  t:Int
deriving DecidableEq
def waitN (qs:List Int) (hs:List Hd) (d:Dm) (n:Int):List EA:=(rngI d.r d.e).map (fun t=>⟨⟨vtx d n t,vtx d n (t+1),roomT qs hs d n t⟩,-1,t⟩)
def waitA (qs:List Int) (hs:List Hd) (d:Dm):Nat→List EA
  | 0=>[]
  | n+1=>waitA qs hs d n ++ waitN qs hs d n
def conE (d:Dm) (c:Ct) (i t:Int):EA:=⟨⟨vtx d c.f t,vtx d c.t (t+1+c.g),c.r⟩,i,t⟩
def conN (cs:List Ct) (bs:List Bk) (d:Dm) (i:Nat):List EA:=match cs[i]? with
  | none=>[]
  | some c=>(tickL d.r d.e c.g (freeC cs bs i)).map (conE d c i)
def conA (cs:List Ct) (bs:List Bk) (d:Dm):Nat→List EA
  | 0=>[]
  | i+1=>conA cs bs d i ++ conN cs bs d i
def arcsE (qs:List Int) (cs:List Ct) (bs:List Bk) (hs:List Hd) (d:Dm):List EA:=waitA qs hs d qs.length ++ conA cs bs d cs.length
def arcsG (qs:List Int) (cs:List Ct) (bs:List Bk) (hs:List Hd) (d:Dm):List Arc:=(arcsE qs cs bs hs d).map (fun x=>x.a)
theorem mem_waitA {qs:List Int} {hs:List Hd} {d:Dm} {x:EA}:∀ {m:Nat},x∈waitA qs hs d m↔∃ n:Nat,n<m∧∃ t,d.r≤t∧t<d.e∧x=⟨⟨vtx d n t,vtx d n (t+1),roomT qs hs d n t⟩,-1,t⟩
  | 0=>by simp [waitA]
  | m+1=>by
    unfold waitA;rw [List.mem_append,mem_waitA (m:=m)];unfold waitN;rw [List.mem_map]
    constructor
    · rintro (⟨n,h1,h2⟩|⟨t,h1,rfl⟩)
      · exact ⟨n,by omega,h2⟩
      · rw [mem_rngI] at h1
        exact ⟨m,by omega,t,h1.1,h1.2,rfl⟩
    · rintro ⟨n,h1,t,h2,h3,rfl⟩
      by_cases h:n<m
      · exact .inl ⟨n,h,t,h2,h3,rfl⟩
      · obtain rfl:n=m:=by omega
        exact .inr ⟨t,by rw [mem_rngI]; exact ⟨h2,h3⟩,rfl⟩
theorem mem_conA {cs:List Ct} {bs:List Bk} {d:Dm} {x:EA}:∀ {m:Nat},x∈conA cs bs d m↔∃ i:Nat,i<m∧∃ c t,cs[i]?=some c∧memI (freeC cs bs i) t=true∧d.r≤t∧t+c.g<d.e∧x=conE d c i t
  | 0=>by simp [conA]
  | m+1=>by
    unfold conA;rw [List.mem_append,mem_conA (m:=m)]
    have key:x∈conN cs bs d m↔∃ c t,cs[m]?=some c∧memI (freeC cs bs m) t=true∧d.r≤t∧t+c.g<d.e∧x=conE d c m t:=by
      unfold conN
      cases e:cs[m]? with
      | none=>simp
      | some c =>
        simp only [List.mem_map,mem_tickL,Option.some.injEq]
        constructor
        · rintro ⟨t,⟨h1,h2,h3⟩,rfl⟩
          exact ⟨c,t,rfl,h1,h2,h3,rfl⟩
        · rintro ⟨c',t,rfl,h1,h2,h3,rfl⟩
          exact ⟨t,⟨h1,h2,h3⟩,rfl⟩
    rw [key]
    constructor
    · rintro (⟨i,h1,h2⟩|h)
      · exact ⟨i,by omega,h2⟩
      · exact ⟨m,by omega,h⟩
    · rintro ⟨i,h1,h2⟩
      by_cases h:i<m
      · exact .inl ⟨i,h,h2⟩
      · obtain rfl:i=m:=by omega
        exact .inr h2
section
variable {qs:List Int} {cs:List Ct} {bs:List Bk} {hs:List Hd} {d:Dm}
theorem VOk.room (h:VOk qs cs bs hs d) (n:Nat) (hn:n<qs.length) (t:Int):0≤roomT qs hs d n t∧roomT qs hs d n t≤1099511627776:=by
  refine ⟨room_nonneg h.quo h.hd h.fit d n hn t,?_⟩;unfold roomT
  split
  · omega
  have h1:=stored_bd (n:=(n:Int)) (t:=t) h.hd
  have hx:=List.getElem?_eq_getElem hn
  have hq:=h.quo n _ hx
  rw [Int.toNat_natCast,List.getD_eq_getElem?_getD,hx,Option.getD_some];omega
theorem VOk.free (h:VOk qs cs bs hs d) {i:Nat} {c:Ct} (hc:cs[i]?=some c):NormI (freeC cs bs i)∧(∀ z∈freeC cs bs i,c.s≤z.1∧z.2≤c.e)∧∀ t,memI (freeC cs bs i) t=(decide (c.s≤t∧t<c.e) && !(bookedB bs i t)):=freeC_ok h.bk hc
inductive ArcIs (qs:List Int) (cs:List Ct) (bs:List Bk) (hs:List Hd) (d:Dm):EA→Prop
  | wait {n:Nat} {t:Int}:n<qs.length→d.r≤t→t<d.e→ArcIs qs cs bs hs d ⟨⟨vtx d n t,vtx d n (t+1),roomT qs hs d n t⟩,-1,t⟩
  | con {i:Nat} {c:Ct} {t:Int}:cs[i]?=some c→d.r≤t→c.s≤t→t<c.e→t+1+c.g≤d.e→bookedB bs i t=false→ArcIs qs cs bs hs d (conE d c i t)
theorem VOk.arc (h:VOk qs cs bs hs d) {x:EA}:x∈arcsE qs cs bs hs d↔ArcIs qs cs bs hs d x:=by
  unfold arcsE;rw [List.mem_append,mem_waitA,mem_conA]
  constructor
  · rintro (⟨n,h1,t,h2,h3,rfl⟩|⟨i,h1,c,t,hc,hm,h2,h3,rfl⟩)
    · exact .wait h1 h2 h3
    · rw [(h.free hc).2.2 t,Bool.and_eq_true,decide_eq_true_eq,Bool.not_eq_true'] at hm
      exact .con hc h2 hm.1.1 hm.1.2 (by omega) hm.2
  · rintro (⟨h1,h2,h3⟩|⟨hc,h1,h2,h3,h4,h5⟩)
    · exact .inl ⟨_,h1,_,h2,h3,rfl⟩
    · refine .inr ⟨_,(List.getElem?_eq_some_iff.1 hc).1,_,_,hc,?_,h1,by omega,rfl⟩
      rw [(h.free hc).2.2,h5,decide_eq_true ⟨h2,h3⟩]
      rfl
def vsN (qs:List Int) (d:Dm):Int:=qs.length*wd d
theorem VOk.wd (h:VOk qs cs bs hs d):2≤Go.Step.wd d∧Go.Step.wd d≤101:=by
  have:=h.dm.2.2.2.2
  unfold Go.Step.wd;omega
theorem VOk.vs (h:VOk qs cs bs hs d):0≤vsN qs d∧vsN qs d≤1616:=by
  have h1:=h.wd
  have h2:=h.nq
  unfold vsN
  refine ⟨Int.mul_nonneg (by omega) (by omega),?_⟩
  exact Int.le_trans (Int.mul_le_mul (show ((qs.length:Nat):Int)≤16 by omega) h1.2 (by omega) (by omega)) (by omega)
theorem VOk.ok (h:VOk qs cs bs hs d):∀ a∈arcsG qs cs bs hs d,okArc (vsN qs d) a=true:=fun a ha=>by
  obtain ⟨x,hx,rfl⟩:=List.mem_map.1 ha
  have hw:=h.wd
  unfold wd at hw;rw [okArc_iff]
  cases h.arc.1 hx with
  | @wait n t h1 h2 h3 =>
    have a:=vtx_lt (d:=d) (n:=n) (t:=t) (N:=qs.length) (by omega) (by omega) h2 (by omega)
    have b:=vtx_lt (d:=d) (n:=n) (t:=t+1) (N:=qs.length) (by omega) (by omega) (by omega) (by omega)
    have c:=vtx_next d n t
    have r:=h.room n h1 t
    unfold vsN
    dsimp only
    omega
  | @con i c t hc h1 h2 h3 h4 h5 =>
    have k:=h.ct c (List.mem_of_getElem? hc)
    have a:=vtx_lt (d:=d) (n:=c.f) (t:=t) (N:=qs.length) k.1.1 k.1.2 h1 (by omega)
    have b:=vtx_lt (d:=d) (n:=c.t) (t:=t+1+c.g) (N:=qs.length) k.2.1.1 k.2.1.2 (by omega) h4
    have ne:vtx d c.f t≠vtx d c.t (t+1+c.g):=fun e=>by
      have:=vtx_inj h1 (by omega) (by omega) h4 e
      omega
    unfold vsN conE
    dsimp only
    omega
theorem waitN_len (qs:List Int) (hs:List Hd) (d:Dm) (n:Int):(waitN qs hs d n).length=(d.e-d.r).toNat:=by unfold waitN; rw [List.length_map,rngI_len]
theorem waitA_len (qs:List Int) (hs:List Hd) (d:Dm):∀ m,(waitA qs hs d m).length=m*(d.e-d.r).toNat
  | 0=>by simp [waitA]
  | m+1=>by unfold waitA; rw [List.length_append,waitA_len qs hs d m,waitN_len,Nat.add_mul,Nat.one_mul]
theorem tickL_all {r e g:Int} {l:List (Int × Int)} (h:NormI l) (hg:0≤g):tickL r e g l=(rngI r e).filter (fun t=>memI l t && decide (t+g<e)):=by
  refine asc_ext (tickL_asc h) ((rngI_asc _ _).filter _) (fun t=>?_)
  rw [mem_tickL,List.mem_filter,mem_rngI,Bool.and_eq_true,decide_eq_true_eq]
  constructor
  · rintro ⟨h1,h2,h3⟩
    exact ⟨by omega,h1,h3⟩
  · rintro ⟨h1,h2,h3⟩
    exact ⟨h2,by omega,h3⟩
theorem VOk.conN_len (h:VOk qs cs bs hs d) (i:Nat):(conN cs bs d i).length≤(d.e-d.r).toNat:=by
  unfold conN
  cases e:cs[i]? with
  | none=>simp
  | some c =>
    have k:=h.ct c (List.mem_of_getElem? e)
    simp only [List.length_map]
    rw [tickL_all (h.free e).1 (by omega)]
    exact Nat.le_trans (List.length_filter_le _ _) (by rw [rngI_len]; exact Nat.le_refl _)
theorem VOk.conA_len (h:VOk qs cs bs hs d):∀ m,(conA cs bs d m).length≤m*(d.e-d.r).toNat
  | 0=>by simp [conA]
  | m+1=>by
    have h1:=h.conA_len m
    have h2:=h.conN_len m
    unfold conA;rw [List.length_append,Nat.add_mul,Nat.one_mul];omega
theorem VOk.len (h:VOk qs cs bs hs d):(arcsE qs cs bs hs d).length≤8000:=by
  have h1:=waitA_len qs hs d qs.length
  have h2:=h.conA_len cs.length
  have h3:=h.dm.2.2.2.2
  have h4:(d.e-d.r).toNat≤100:=by omega
  have a:=Nat.mul_le_mul h.nq.2 h4
  have b:=Nat.mul_le_mul h.nc h4
  unfold arcsE;rw [List.length_append];omega
theorem VOk.chk (h:VOk qs cs bs hs d):chk (vsN qs d) (arcsG qs cs bs hs d)=0:=by
  have h1:=h.vs
  have h2:=h.len
  unfold Go.Flow.chk
  rw [if_neg (by omega),if_neg (by unfold arcsG; rw [List.length_map]; omega),if_pos (List.all_eq_true.2 h.ok)]
theorem VOk.ends (h:VOk qs cs bs hs d):Go.Flow.okEnds (vsN qs d) (vtx d d.s d.r) (vtx d d.d d.e)=true:=by
  have hw:=h.wd
  unfold wd at hw
  obtain ⟨h1,h2,h3,_,h4⟩:=h.dm
  have a:=vtx_lt (d:=d) (n:=d.s) (t:=d.r) (N:=qs.length) h1.1 h1.2 (by omega) (by omega)
  have b:=vtx_lt (d:=d) (n:=d.d) (t:=d.e) (N:=qs.length) h2.1 h2.2 (by omega) (by omega)
  rw [Go.Flow.okEnds_iff];unfold vsN
  refine ⟨a.1,a.2,b.1,b.2,fun e=>?_⟩
  have:=vtx_inj (by omega) (by omega) (by omega) (by omega) e
  omega
/-! sums over lists -/
def lsum {α:Type} (f:α→Int):List α→Int
  | []=>0
  | x::l=>f x+lsum f l
/-! the capacity of a set of nodes at times -/
end
end Go.Step
namespace Go.Eng
variable {C : Cx} {D : List Deferred} {R H : List PH} {L : Env} {K : List It}
variable {dst : Option Tmp} {ty : TypeId} {pos : String} {aft : Array Edge} {g : Option (Nat × Bool)}
abbrev aggI (k : List Int) : Value := .agg (k.map int).toArray
def midxS (k : List Int) : List (List Int × Value) → Option (Nat × Value)
  | [] => none
  | (a, v) :: m => if k = a then some (0, v) else (midxS k m).map (fun p => (p.1 + 1, p.2))
def mgetS (k : List Int) (m : List (List Int × Value)) : Option Value := (midxS k m).map (·.2)
def msetS (k : List Int) (v : Value) : List (List Int × Value) → List (List Int × Value)
  | [] => [(k, v)]
  | (a, w) :: m => if k = a then (a, v) :: m else (a, w) :: msetS k v m
theorem mgetS_mset (k x : List Int) (v : Value) : ∀ m : List (List Int × Value), mgetS x (msetS k v m) = if x = k then some v else mgetS x m
  | [] => by
    by_cases h : x = k <;> simp [msetS, mgetS, midxS, h]
  | (a, w) :: m => by
    have ih := mgetS_mset k x v m
    by_cases h : k = a
    · subst h
      simp only [msetS, if_true, mgetS, midxS]
      by_cases e : x = k <;> simp [e]
    · simp only [msetS, if_neg h, mgetS, midxS] at ih ⊢
      by_cases e : x = a
      · subst e
        simp [Ne.symm h]
      · simp only [if_neg e, Option.map_map] at ih ⊢
        have e2 : ((fun x : Nat × Value => x.2) ∘ fun p : Nat × Value => (p.1 + 1, p.2)) = fun x => x.2 := rfl
        rw [e2, ih]
structure KeyS (P : Program) (kt : TypeId) (n : Nat) : Prop where
  i : intsP P kt n = true
  s : P.stoodInHeld kt = false
theorem run_checkFlds {P : Program} {w : World} (em : Bool) (d : Nat) (k : List Int) : ∀ (fs : List Field) (j : Nat), fldsI P j fs = true → j + fs.length = k.length →
    ((forIn fs PUnit.unit fun (f : Field) (_ : PUnit) => (if f.name ≠ "_" then do let x ← part f.type (k.map int).toArray f.offset; Instr.checkKey em (d + 1) f.type x; pure (ForInStep.yield PUnit.unit) else pure (ForInStep.yield PUnit.unit) : Sem (ForInStep PUnit)))).run P w = .ok PUnit.unit w
  | [], j, _, _ => by simp
  | f :: fs, j, hf, h => by
    simp only [fldsI, fldI, Bool.and_eq_true, bne_iff_ne, ne_eq, beq_iff_eq] at hf
    obtain ⟨⟨⟨h3, h4⟩, h5⟩, h6⟩ := hf
    have hu : P.underlying f.type = some (.int .i64) := by
      split at h5
      · assumption
      · simp at h5
    have ih := run_checkFlds (w := w) em d k fs (j + 1) h6 (by simp at h; omega)
    have hk : j < k.length := by simp at h; omega
    have hp : (part f.type (k.map int).toArray f.offset).run P w = .ok (int k[j]) w := by
      have hag : aggP P f.type = some false := by simp [aggP, hu]
      simp [part, run_isAgg hag, h4, hk]
    have hc := run_checkKey (P := P) (w := w) (k := k[j]) em d hu
    rw [List.forIn_cons];simp only [h3, not_false_eq_true, if_true, ne_eq, bind_assoc, Sem.run_bind, hp, hc, Result.andThen_ok, pure_bind];exact ih
theorem run_checkS {P : Program} {w : World} {kt : TypeId} {n : Nat} {k : List Int} (hk : KeyS P kt n) (hn : k.length = n) (em : Bool) : (Instr.checkKey em 10000 kt (aggI k)).run P w = .ok () w := by
  obtain ⟨fs, hu, hs, hf⟩ := intsP_of hk.i
  have h := run_checkFlds (P := P) (w := w) em 9998 k fs.toList 0 hf (by simp [hs, hn])
  rw [show (10000 : Nat) = 9999 + 1 from rfl, Instr.checkKey]
  simp only [Sem.run_bind, run_underlying hu, Result.andThen_ok, ← Array.forIn_toList];rw [h]
  rfl
theorem sameBits_agg (k : List Int) : Instr.sameBits 10000 (aggI k) (aggI k) = true := by
  have h : ∀ l : List Int, ((l.map int).zip (l.map int)).all (fun p => Instr.sameBits 9999 p.1 p.2) = true := by
    intro l
    induction l with
    | nil => rfl
    | cons x l ih =>
      simp only [List.map_cons, List.zip_cons_cons, List.all_cons, ih, Bool.and_true]
      simp [Instr.sameBits]
  have h2 := h k
  simp only [aggI];unfold Instr.sameBits;simp only [beq_self_eq_true, Bool.true_and];exact h2
theorem msetS_len {k : List Int} {v : Value} {n : Nat} (hk : k.length = n) : ∀ {l : List (List Int × Value)}, (∀ x ∈ l, x.1.length = n) → ∀ x ∈ msetS k v l, x.1.length = n
  | [], _, x, hx => by simp [msetS] at hx; rw [hx]; exact hk
  | (a, w) :: l, h, x, hx => by
    unfold msetS at hx
    split at hx
    · rcases List.mem_cons.1 hx with rfl | hx
      · exact h (a, w) (by simp)
      · exact h x (by simp [hx])
    · rcases List.mem_cons.1 hx with rfl | hx
      · exact h (a, w) (by simp)
      · exact msetS_len hk (l := l) (fun y hy => h y (by simp [hy])) x hx
end Go.Eng
namespace Go.Step
open Go.Eng
def NumAt (d:Dm) (k t:Int) (M:List (List Int × Value)):Prop:=(∀ e∈M,e.1.length=2)∧∀ n u:Int,mgetS [n,u] M=if (0≤n∧d.r≤u∧u≤d.e)∧(n<k∨(n=k∧u<t)) then some (int (vtx d n u)) else none
theorem NumAt.nil (d:Dm):NumAt d 0 d.r []:=⟨by simp,fun n u=>by rw [if_neg (by omega)]; rfl⟩
theorem NumAt.row {d:Dm} {k t:Int} {M:List (List Int × Value)} (h:NumAt d k t M) (ht:d.e<t):NumAt d (k+1) d.r M:=⟨h.1,fun n u=>by
  rw [h.2]
  by_cases c:(0≤n∧d.r≤u∧u≤d.e)∧(n<k∨(n=k∧u<t))
  · rw [if_pos c,if_pos (by omega)]
  · rw [if_neg c,if_neg (by omega)]⟩
theorem NumAt.add {d:Dm} {k t:Int} {M:List (List Int × Value)} (h:NumAt d k t M) (hk:0≤k) (h1:d.r≤t) (h2:t≤d.e):NumAt d k (t+1) (msetS [k,t] (int (vtx d k t)) M):=⟨msetS_len rfl h.1,fun n u=>by
  rw [mgetS_mset]
  by_cases c:[n,u]=[k,t]
  · rw [if_pos c]
    simp only [List.cons.injEq,and_true] at c
    obtain ⟨rfl,rfl⟩:=c
    rw [if_pos (by omega)]
  · rw [if_neg c,h.2]
    have c2:¬ (n=k∧u=t):=fun h=>c (by rw [h.1,h.2])
    by_cases c3:(0≤n∧d.r≤u∧u≤d.e)∧(n<k∨(n=k∧u<t))
    · rw [if_pos c3,if_pos (by omega)]
    · rw [if_neg c3,if_neg (by omega)]⟩
end Go.Step
namespace Go.Proofs.YtglifndogffmkaaGreat
open Go.Eng Go.Step
set_option maxRecDepth 100000
set_option maxHeartbeats 64000000
theorem bkCheck0_spec {ρ τ σ υ:PH} {pq pc pb ph:Option Addr} {kq kc kb kh:Nat} {qs:List Int} {cs:List Ct} {bs:List Bk} {hs:List Hd} (hT:TbAt ρ τ σ υ pq pc pb ph kq kc kb kh qs cs bs hs) (i:Nat) (h0:chkB qs cs bs=0) (hi:i<cs.length) :
  Ans Tryz.prog (fv 142) [.agg #[.slice pq qs.length kq,.slice pc cs.length kc],.slice pb bs.length kb,int (i:Int)] [ρ,τ,σ] (fun r=>r=int 0):=by
 have hck:=bkCheck_spec ρ τ σ pq pc kq kc qs cs _ bs hT.hq hT.hc hT.hcap hT.lq hT.lc hT.hb hT.lb
 rw [h0] at hck
 refine spec_in (cap:=[]) Tryz.func142 rfl rfl Tryz.ntmps142 rfl envZ (fun N β=>?_)
 refine Aa ?_;refine BH (BI rfl) rfl rfl rfl ?_;rintro _ _ ⟨b3,rfl,rfl⟩;refine AQ (ρ:=sng b3 _) takeZ ?_
 have c:=rdB b3 25 [.slice pq qs.length kq,.slice pc cs.length kc]
 have c0:=rdC c 0
 have c1:=rdC c 1
 refine Adg ?_;refine AB ?_;refine AZ hck rfl rfl rdZ rfl rfl ?_;rintro _ rfl;refine BO ?_;refine Ab6 ?_;refine A7 ?_;refine Aal ?_;refine Aae ?_;refine BC ?_;refine CM ?_;refine Ab3 ?_;refine Aaq ?_;exact A3 ⟨rfl,rfl⟩
theorem freeAdd_spec (bA bO:Nat) (a to:Int) (u:Value) (G:List (Int × Int)) (χ:PH) (hO:OwnS 182 2 u G.length (G.flatMap encS) χ) (hl:G.length≤100000) :
  Eng.Spec Tryz.prog (.func (.func 196) #[] #[.pointer (some ⟨bA,0,none⟩),.pointer (some ⟨bO,0,none⟩)]) [int to] [] [sng bA (.cells #[int a] 3 (0,0)),sng bO (.cells #[u] 169 (0,0)),χ] (fun r H'=>r=.tuple #[]∧∃ u' χ',H'=[sng bA (.cells #[int a] 3 (0,0)),sng bO (.cells #[u'] 169 (0,0)),χ']∧OwnS 182 2 u' (G ++ if a<to then [(a,to)] else []).length ((G ++ if a<to then [(a,to)] else []).flatMap encS) χ'):=by
 have hone:∀ z n (xs:List Value) (χ:PH),OwnS 182 2 z n xs χ→z.oneCell'=true:=fun z n xs χ h=>by obtain ⟨_,_,rfl⟩:=h.form; rfl
 have hu:=hone _ _ _ _ hO
 refine spec_in (cap:=[.pointer (some ⟨bA,0,none⟩),.pointer (some ⟨bO,0,none⟩)]) Tryz.func196 rfl rfl Tryz.ntmps196 rfl envZ (fun N β=>?_)
 by_cases h:a<to
 ·rw [if_pos h]
  refine Aa8 ?_;refine AB ?_;refine Abp ?_;refine AA ?_;refine AF ?_;refine AF ?_;refine AB ?_;refine B0 ?_;refine BQ ?_; rintro _ _ ⟨b,rfl,rfl⟩
  refine BH (CG (by_:=16) (s:=2) (news:=[int a,int to]) rfl rfl rfl rfl rfl rfl rfl hO takeZ (cells_own memZ) rfl oneZ (by omega) (by simp only [maxLen]; omega) (by omega)) rfl rfl rfl ?_
  rintro u1 _ ⟨χ1,hO1,rfl⟩
  have hu2:=hone _ _ _ _ hO1
  refine BM ?_; rintro _ _ ⟨rfl,rfl⟩;refine AE ?_;refine A9 (res0 rfl) rsubZ selZ ⟨rfl,u1,χ1,rfl,?_⟩;rw [List.length_append,List.flatMap_append];exact hO1
 ·rw [if_neg h,List.append_nil]
  refine Aa8 ?_;refine AB ?_;refine A7 ?_;refine Aai ?_;exact A9 (res0 rfl) rsubZ selZ ⟨rfl,u,χ,rfl,hO⟩
theorem gapsP_at {e:Int} {l:List (Int × Int)} {k:Nat} (h:k<l.length) (a:Int):gapsP e a (l.drop k)=(if a<l[k].1 then [(a,l[k].1)] else []) ++ gapsP e l[k].2 (l.drop (k+1)):=by
 rw [List.drop_eq_getElem_cons h]
 rfl
theorem bkFree0_spec {ρ τ σ υ:PH} {pq pc pb ph:Option Addr} {kq kc kb kh:Nat} {qs:List Int} {cs:List Ct} {bs:List Bk} {hs:List Hd} (hT:TbAt ρ τ σ υ pq pc pb ph kq kc kb kh qs cs bs hs) (i:Nat) (x:Ct) (hx:cs[i]?=some x) (hb:firstE (bkE cs bs) bs.length=0) (hbl:bs.length≤512) :
  Makes Tryz.prog (fv 143) [.agg #[.slice pq qs.length kq,.slice pc cs.length kc],.slice pb bs.length kb,int (i:Int),int x.s] [ρ,τ,σ] (fun r χ=>OwnS 182 2 r (freeC cs bs i).length ((freeC cs bs i).flatMap encS) χ):=by
 have hbusy:=busy_spec σ _ bs i hT.hb (by omega)
 have hbi:=busy_in hb hx
 have hbp:=busy_apart hb i
 have hbll:=busyL_len bs i
 have hfc:freeC cs bs i=gapsP x.e x.s (busyL bs i):=by unfold freeC; rw [hx]
 have hgl:=gapsP_len x.e (busyL bs i) x.s
 have hone:∀ z n (xs:List Value) (χ:PH),OwnS 182 2 z n xs χ→z.oneCell'=true:=fun z n xs χ h=>by obtain ⟨_,_,rfl⟩:=h.form; rfl
 rw [hfc]
 have hi:=(List.getElem?_eq_some_iff.1 hx).1
 obtain ⟨bq,oq,e4,hrd⟩:=ctRow hT.rc hx
 refine spec_in (cap:=[]) Tryz.func143 rfl rfl Tryz.ntmps143 rfl envZ (fun N β=>?_)
 refine Aa ?_;refine BH (BI rfl) rfl rfl rfl ?_;rintro _ _ ⟨b3,rfl,rfl⟩;refine AQ (ρ:=sng b3 _) takeZ ?_
 have c:=rdB b3 25 [.slice pq qs.length kq,.slice pc cs.length kc]
 have c0:=rdC c 0
 have c1:=rdC c 1
 refine CC ?_;subst e4;refine Abx ?_;refine AB ?_;refine Abb ?_;refine A4 ?_; rintro _ _ ⟨b,rfl,rfl⟩;refine AW ?_; rintro _ _ ⟨rfl,rfl⟩;refine AE ?_;refine Aa ?_;refine CB ?_; rintro _ _ ⟨b,rfl,rfl⟩;refine Aca ?_;refine AB ?_;refine DB ?_;refine CB ?_; rintro _ _ ⟨b,rfl,rfl⟩;refine BM ?_; rintro _ _ ⟨rfl,rfl⟩;refine AE ?_;refine Aa ?_;refine B3 ?_;refine Aaj ?_;refine Aag ?_
 revert b; intro bA
 revert b; intro bO
 revert b; intro bC
 rw [show max x.s x.s=x.s by omega]
 refine AQ (ρ:=sng bC _) takeZ ?_
 have bx164_3:=rdB bC 61 [int x.f,int x.t,int x.s,int x.e,int x.r,int x.g,int x.l]
 have g2:=rdC bx164_3 3
 refine CJ hbusy rfl rfl rdZ rfl rfl ?_;rintro w χb hOb
 have hSb:=hOb.at
 obtain ⟨pw,kw,rfl⟩:=hOb.form
 obtain ⟨_,_,ew,hrw⟩:=SlE.val (enc:=encS) encS_len (show SlE encS 2 χb _ (busyL bs i) from hSb)
 simp only [Value.slice.injEq] at ew
 obtain ⟨rfl,_,rfl⟩:=ew
 refine AQ (ρ:=χb) takeZ ?_
 generalize busyL bs i=L at hbi hbp hbll hOb hSb hrw hgl
 refine Abk ?_
 refine BF [2,12,27,28,9,10,11] (X:=Nat × Int × List (Int × Int) × Value × PH) (0,x.s,[],.slice none 0 0,emp) (fun z=>z.1≤L.length∧(∀ y∈L.drop z.1,z.2.1≤y.1)∧gapsP x.e x.s L=z.2.2.1 ++ gapsP x.e z.2.1 (L.drop z.1)∧OwnS 182 2 z.2.2.2.1 z.2.2.1.length (z.2.2.1.flatMap encS) z.2.2.2.2) (fun z=>[(29,int z.1)]) (fun z=>[sng bA (.cells #[int z.2.1] 3 (0,0)),sng bO (.cells #[z.2.2.2.1] 169 (0,0)),z.2.2.2.2]) (fun z=>L.length-z.1) pickZ ⟨by dsimp only; omega,fun y hy=>by rw [List.drop_zero] at hy; exact (hbi y hy).1,rfl,OwnS.nil _ _⟩ covZ selZ ?_
 rintro ⟨k,a,G,u,χ⟩ ⟨hk,ha,hG,hO⟩
 dsimp only at hk ha hG hO ⊢
 have hGl:G.length≤L.length+1:=by
  have:=congrArg List.length hG
  rw [List.length_append] at this;omega
 by_cases hlt:k<L.length
 ·have hy:=List.getElem?_eq_getElem hlt
  have hga:=gapsP_at (e:=x.e) hlt a
  have hmem:=List.getElem_mem hlt
  have hin:=hbi _ hmem
  have hak:=ha L[k] (by rw [List.drop_eq_getElem_cons hlt]; exact List.mem_cons_self)
  have hpk:∀ y∈L.drop (k+1),L[k].2≤y.1:=fun y hy=>by
   have h1:=List.Pairwise.sublist (List.drop_sublist k L) hbp
   rw [List.drop_eq_getElem_cons hlt] at h1;exact (List.pairwise_cons.1 h1).1 y hy
  obtain ⟨b6,o6,rfl,hRd6,y0,y1⟩:=spRow hrw hy
  generalize L[k]=y at hy hga hin hak hpk hRd6 y0 y1
  have hadd:=freeAdd_spec bA bO a y.1 u G χ hO (by omega)
  refine Ab2 ?_;refine A4 ?_; rintro _ _ ⟨b,rfl,rfl⟩;refine AW ?_; rintro _ _ ⟨rfl,rfl⟩;refine AE ?_;refine Aab ?_;refine Aae ?_
  revert b; intro b14
  refine BA hadd rfl rfl takesZ rdZ rfl rfl ?_;rintro _ _ ⟨rfl,u',χ',rfl,hO'⟩
  have hmx:max a y.2=y.2:=by omega
  refine AE ?_;refine AA ?_;refine AF ?_;refine Aae ?_;refine DB ?_
  focus ((rw [hmx]))
  refine BM ?_; rintro _ _ ⟨rfl,rfl⟩;refine AE ?_;refine Aa3 ?_
  refine AY (k+1,y.2,G ++ (if a<y.1 then [(a,y.1)] else []),u',χ') ⟨by dsimp only; omega,hpk,?_,hO'⟩ (by dsimp only; omega) covZ selZ
  dsimp only
  rw [hG,hga,List.append_assoc]
 ·have hke:k=L.length:=by omega
  subst hke
  have hadd:=freeAdd_spec bA bO a x.e u G χ hO (by omega)
  have hfin:gapsP x.e x.s L=G ++ (if a<x.e then [(a,x.e)] else []):=by
   rw [hG,List.drop_length]
   rfl
  rw [hfin];refine Abl ?_;refine Aab ?_;refine Aae ?_;refine BA hadd rfl rfl takesZ rdZ rfl rfl ?_;rintro _ _ ⟨rfl,u',χ',rfl,hO'⟩;refine Ac3 ?_;refine Aaa ?_;exact AT (res1 rfl rfl) rsubZ selZ ⟨χ',hO',rfl⟩
theorem bkFree_spec {ρ τ σ υ:PH} {pq pc pb ph:Option Addr} {kq kc kb kh:Nat} {qs:List Int} {cs:List Ct} {bs:List Bk} {hs:List Hd} (hT:TbAt ρ τ σ υ pq pc pb ph kq kc kb kh qs cs bs hs) (i:Nat) (x:Ct) (hx:cs[i]?=some x) (h0:chkB qs cs bs=0) :
  Makes Tryz.prog (fv 72) [.agg #[.slice pq qs.length kq,.slice pc cs.length kc],.slice pb bs.length kb,int (i:Int)] [ρ,τ,σ] (fun r χ=>∃ u,r=.tuple #[u,int 0]∧OwnS 182 2 u (freeC cs bs i).length ((freeC cs bs i).flatMap encS) χ):=by
 obtain ⟨hbl,hb⟩:=chkB_ok h0
 have hck:=bkCheck0_spec hT i h0 (List.getElem?_eq_some_iff.1 hx).1
 have hfr:=bkFree0_spec hT i x hx hb hbl
 have hi:=(List.getElem?_eq_some_iff.1 hx).1
 obtain ⟨bq,oq,e4,hrd⟩:=ctRow hT.rc hx
 have g2:rdc τ bq (oq+i*7+2)=some (int x.s):=hrd.get (j:=2) rfl
 refine spec_in (cap:=[]) Tryz.func72 rfl rfl Tryz.ntmps72 rfl envZ (fun N β=>?_)
 refine Aa ?_;refine BH (BI rfl) rfl rfl rfl ?_;rintro _ _ ⟨b3,rfl,rfl⟩;refine AQ (ρ:=sng b3 _) takeZ ?_
 have c:=rdB b3 25 [.slice pq qs.length kq,.slice pc cs.length kc]
 have c0:=rdC c 0
 have c1:=rdC c 1
 subst e4;refine Ace ?_;refine Aas ?_;refine Aal ?_;refine AZ hck rfl rfl rdZ rfl rfl ?_;rintro _ rfl;refine Acx ?_;refine Aa6 ?_
 refine BD (.q 0 (.q 1 (.q 2 (.q 3 (.q 4 (.q 5 (.q 6 (.q 7 (.q 8 (.l 9 .e (.q 10 (.q 11 .nil)))))))))))) [] rfl (by kernel_rfl) Sel.nil ?_
 refine A8 ?_;refine Aar ?_;refine Aak ?_;refine AM ?_;refine BB ?_;refine Abr ?_;refine B4 (DV rfl hfr rfl rfl rdZ rfl rfl ?_);rintro u _ ⟨χ,hO,rfl⟩;refine BV ?_;refine Acr ?_
 skip
 exact AT (res2 rfl rfl rfl) rsubZ selZ ⟨χ,⟨u,rfl,hO⟩,rfl⟩
theorem chkH_pl {qs:List Int} {cs:List Ct} {l:List Hd} (h:chkH qs cs l=0):chkPl qs cs=0:=by
 unfold chkH at h
 split at h
 ·omega
 ·rename_i hp; exact Decidable.not_not.1 hp
theorem chkH_ok {qs:List Int} {cs:List Ct} {l:List Hd} (h:chkH qs cs l=0):(∀ x∈l,okHd qs.length x)∧l.length≤512∧(1≤qs.length∧qs.length≤16):=by
 unfold chkH at h
 split at h
 ·omega
 ·rename_i hp
  split at h
  ·omega
  ·split at h
   ·rename_i h2; exact absurd h h2
   ·rename_i h1 h2
    have h3:firstE (hdE qs.length l) l.length=0:=Decidable.not_not.1 h2
    have:=hdE_ok h3
    rw [List.take_length] at this
    exact ⟨this,by omega,(chkPl_quo (Decidable.not_not.1 hp)).1⟩
def endO (fr t:Int) (out:List (Int × Int)):List (Int × Int):=if 0≤fr∧fr<t then out ++ [(fr,t)] else out
theorem end_spec (bf bo:Nat) (fr t:Int) (u:Value) (out:List (Int × Int)) (σ:PH) (hO:OwnS 182 2 u out.length (out.flatMap encS) σ) (hl:out.length≤100000) :
  Eng.Spec Tryz.prog (.func (.func 146) #[] #[.pointer (some ⟨bf,0,none⟩),.pointer (some ⟨bo,0,none⟩)]) [int t] [] [sng bf (.cells #[int fr] 3 (0,0)),sng bo (.cells #[u] 169 (0,0)),σ]
   (fun r H'=>r=.tuple #[]∧∃ u' σ',OwnS 182 2 u' (endO fr t out).length ((endO fr t out).flatMap encS) σ'∧H'=[sng bf (.cells #[int (-1)] 3 (0,0)),sng bo (.cells #[u'] 169 (0,0)),σ']):=by
 obtain ⟨pu,cu,rfl⟩:=SlAt.cap hO.at
 refine spec_in (cap:=[.pointer (some ⟨bf,0,none⟩),.pointer (some ⟨bo,0,none⟩)]) Tryz.func146 rfl rfl Tryz.ntmps146 rfl envZ (fun N β=>?_)
 unfold endO
 by_cases h1:0≤fr
 ·by_cases h2:fr<t
  ·rw [if_pos ⟨h1,h2⟩]
   refine AC ?_;refine Aa8 ?_;refine DH ?_;refine Ac8 ?_;refine AB ?_;refine BK ?_;refine Ac4 ?_;refine AA ?_;refine AF ?_;refine AF ?_;refine AB ?_;refine B0 ?_;refine BQ ?_; rintro _ _ ⟨b,rfl,rfl⟩
   refine BH (CG (by_:=16) (s:=2) (news:=[int fr,int t]) rfl rfl rfl rfl rfl rfl rfl hO takeZ (cells_own memZ) rfl oneZ (by omega) (by simp only [maxLen]; omega) (by omega)) rfl rfl rfl ?_
   rintro u1 _ ⟨σ1,hO1,rfl⟩
   have hu1:u1.oneCell'=true:=by obtain ⟨p,c,rfl⟩:=SlAt.cap hO1.at; rfl
   refine BM ?_; rintro _ _ ⟨rfl,rfl⟩;refine AE ?_;refine AA ?_;refine BM ?_; rintro _ _ ⟨rfl,rfl⟩;refine AE ?_;refine A9 (res0 rfl) rsubZ selZ ⟨rfl,u1,σ1,?_,rfl⟩;rw [List.length_append,List.flatMap_append];exact hO1
  ·rw [if_neg (by omega)]
   refine AC ?_;refine Aa8 ?_;refine DH ?_;refine Ac8 ?_;refine AB ?_;refine A7 ?_;refine Adb ?_;refine AA ?_;refine BM ?_; rintro _ _ ⟨rfl,rfl⟩;refine AE ?_;exact A9 (res0 rfl) rsubZ selZ ⟨rfl,_,_,hO,rfl⟩
 ·rw [if_neg (by omega)]
  refine AC ?_;refine Aa8 ?_;refine CM ?_;refine Abd ?_;refine Ab3 ?_;refine AA ?_;refine BM ?_; rintro _ _ ⟨rfl,rfl⟩;refine AE ?_;exact A9 (res0 rfl) rsubZ selZ ⟨rfl,_,_,hO,rfl⟩
def fnEnd (bf bo:Nat):Value:=.func (.func 146) #[] #[.pointer (some ⟨bf,0,none⟩),.pointer (some ⟨bo,0,none⟩)]
theorem at_spec (ρ:PH) (b4 b6 b7 b12 bf bo:Nat) (w:Value) (pq:Option Addr) (kq:Nat) (qs:List Int) (nn:Nat) (Q s fr t x:Int) (u:Value) (out:List (Int × Int)) (σ:PH) (hq:IntsAt ρ (.slice pq qs.length kq) qs) (hQ:qs[nn]?=some Q) (hQb:0≤Q∧Q≤1073741824) (hx:0≤x∧x≤1099511627776)
  (hO:OwnS 182 2 u out.length (out.flatMap encS) σ) (hl:out.length≤100000) :
  Eng.Spec Tryz.prog (.func (.func 147) #[] #[.pointer (some ⟨b4,0,none⟩),.pointer (some ⟨b6,0,none⟩),.pointer (some ⟨b7,0,none⟩),.pointer (some ⟨b12,0,none⟩),.pointer (some ⟨bf,0,none⟩)]) [int t,int x]
   [ρ,sng b4 (.cells #[.slice pq qs.length kq,w] 25 (0,0)),sng b6 (.cells #[int nn] 3 (0,0)),sng b7 (.cells #[int s] 3 (0,0)),sng b12 (.cells #[fnEnd bf bo] 247 (0,0))]
   [sng bf (.cells #[int fr] 3 (0,0)),sng bo (.cells #[u] 169 (0,0)),σ]
   (fun r H'=>r=.tuple #[]∧∃ u' σ',OwnS 182 2 u' (frA Q s (fr,out) t x).2.length ((frA Q s (fr,out) t x).2.flatMap encS) σ'∧H'=[sng bf (.cells #[int (frA Q s (fr,out) t x).1] 3 (0,0)),sng bo (.cells #[u'] 169 (0,0)),σ']):=by
 obtain ⟨_,_,e,hrq⟩:=hq.val Eng.encI_len
 simp only [Value.slice.injEq] at e
 obtain ⟨rfl,_,rfl⟩:=e
 have hnl:=(List.getElem?_eq_some_iff.1 hQ).1
 obtain ⟨bq,oq,rfl,gq⟩:=hrq.int hQ
 refine spec_in (cap:=[.pointer (some ⟨b4,0,none⟩),.pointer (some ⟨b6,0,none⟩),.pointer (some ⟨b7,0,none⟩),.pointer (some ⟨b12,0,none⟩),.pointer (some ⟨bf,0,none⟩)]) Tryz.func147 rfl rfl Tryz.ntmps147 rfl envZ (fun N β=>?_)
 have bx99_3:=rdB b4 25 [.slice (some ⟨bq,oq,none⟩) qs.length kq,w]
 have c4:=rdC bx99_3 0
 have bx100_3:=rdB b6 3 [int nn]
 have c6:=rdC bx100_3 0
 have bx101_3:=rdB b7 3 [int s]
 have c7:=rdC bx101_3 0
 have bx102_3:=rdB b12 247 [fnEnd bf bo]
 have c12:=rdC bx102_3 0
 unfold frA
 dsimp only
 refine AC ?_
 refine BD (.q 0 (.q 1 (.q 2 (.q 3 (.q 4 (.q 5 (.q 6 (.q 7 (.q 8 .nil))))))))) _ rfl (by kernel_rfl) Sel.refl ?_
 by_cases hc:Q-x<s
 ·rw [if_pos hc]
  refine Ab0 ?_;refine EC ?_;refine AP ?_;refine AM ?_;refine D5 ?_;refine AP ?_;refine DO ?_;refine Abz ?_;refine AA ?_;refine AF ?_;refine AB ?_
  refine BA (end_spec bf bo fr t u out σ hO hl) rfl rfl takesZ (fun τ hτ=>by simp at hτ) rfl rfl ?_
  rintro _ _ ⟨rfl,u1,σ1,hO1,rfl⟩;refine AE ?_;exact A9 (res0 rfl) rsubZ selZ ⟨rfl,u1,σ1,hO1,rfl⟩
 ·rw [if_neg hc]
  by_cases hf:fr<0
  ·rw [if_pos hf]
   refine Ab0 ?_;refine EC ?_;refine AP ?_;refine AM ?_;refine D5 ?_;refine AP ?_;refine CX ?_;refine Abn ?_;refine Aa8 ?_;refine Abp ?_;refine Aby ?_;refine BM ?_; rintro _ _ ⟨rfl,rfl⟩;refine AE ?_;exact A9 (res0 rfl) rsubZ selZ ⟨rfl,_,_,hO,rfl⟩
  ·rw [if_neg hf]
   refine Ab0 ?_;refine EC ?_;refine AP ?_;refine AM ?_;refine D5 ?_;refine AP ?_;refine CX ?_;refine Abn ?_;refine Aa8 ?_;refine A7 ?_;refine Aai ?_;exact A9 (res0 rfl) rsubZ selZ ⟨rfl,_,_,hO,rfl⟩
theorem free_spec (ρ τ σ:PH) (pq pc:Option Addr) (kq kc:Nat) (qs:List Int) (cs:List Ct) (v:Value) (l:List Hd) (n s:Int) (hq:IntsAt ρ (.slice pq qs.length kq) qs) (hc:CtAt τ (.slice pc cs.length kc) cs) (hcap:cs.length≤kc) (lq:qs.length≤9223372036854775807) (lc:cs.length≤9223372036854775807) (hv:HdAt σ v l) (hl:l.length≤9223372036854775807) :
  Makes Tryz.prog (fv 74) [.agg #[.slice pq qs.length kq,.slice pc cs.length kc],v,int n,int s] [ρ,τ,σ] (fun r σ'=>∃ u,r=.tuple #[u,int (freeRes qs cs l n s).2]∧OwnS 182 2 u (freeRes qs cs l n s).1.length ((freeRes qs cs l n s).1.flatMap encS) σ'):=by
 have hv2:=hv
 obtain ⟨q,c,rfl,hr⟩:=hv.val encH_len
 refine spec_in (cap:=[]) Tryz.func74 rfl rfl Tryz.ntmps74 rfl envZ (fun N β=>?_)
 refine CC ?_;refine Aa ?_;refine BH (BI rfl) rfl rfl rfl ?_;rintro _ _ ⟨b4,rfl,rfl⟩;refine AQ (ρ:=sng b4 _) takeZ ?_
 have c1:RdN (sng b4 (.cells #[.slice pq qs.length kq,.slice pc cs.length kc] 25 (0,0))) b4 0 [.slice pq qs.length kq,.slice pc cs.length kc]:=fun j u hu=>by rw [rdc_sng,Nat.zero_add]; simpa using hu
 have bx21_3:=rdB b4 25 [.slice pq qs.length kq,.slice pc cs.length kc]
 have c10:=rdC bx21_3 0
 refine BH (DP rfl rfl) rfl rfl rfl ?_;rintro _ _ ⟨b6,rfl,rfl⟩;refine AQ (ρ:=sng b6 _) takeZ ?_
 have bx25_3:=rdB b6 3 [int n]
 have c6:=rdC bx25_3 0
 refine BH (DP rfl rfl) rfl rfl rfl ?_;rintro _ _ ⟨b7,rfl,rfl⟩;refine AQ (ρ:=sng b7 _) takeZ ?_
 have bx29_3:=rdB b7 3 [int s]
 have c7:=rdC bx29_3 0
 refine Ace ?_;refine Aas ?_;refine AB ?_;refine AZ (check28_spec ρ τ σ pq pc kq kc qs cs _ l hq hc hcap lq lc hv2 hl) rfl rfl rdZ rfl rfl ?_;rintro _ rfl
 by_cases h0:chkH qs cs l=0
 rotate_left
 ·have hR:freeRes qs cs l n s=([],1):=by unfold freeRes; rw [if_pos h0]
  rw [hR]
  generalize chkH qs cs l=z at h0
  refine C3 ?_;refine Ac5 ?_;exact AT (res2 rfl rfl rfl) rsubZ selZ ⟨emp,⟨_,rfl,OwnS.nil _ _⟩,rfl⟩
 rw [h0]
 obtain ⟨hok,hlen,hql⟩:=chkH_ok h0
 by_cases hbad:n<0∨(qs.length:Int)≤n∨s<1∨65536<s
 ·have hR:freeRes qs cs l n s=([],2):=by unfold freeRes; rw [if_neg (fun h=>h h0),if_pos hbad]
  rw [hR]
  by_cases k1:n<0
  ·refine BO ?_
   refine Aa6 ?_;refine Aa8 ?_;refine BK ?_;refine Ac6 ?_;refine A2 ?_;refine Adk ?_;refine Adk ?_;refine Ac5 ?_;exact AT (res2 rfl rfl rfl) rsubZ selZ ⟨emp,⟨_,rfl,OwnS.nil _ _⟩,rfl⟩
  by_cases k2:(qs.length:Int)≤n
  ·refine BO ?_
   refine Aa6 ?_;refine Aa8 ?_;refine A7 ?_;refine Ac8 ?_;refine Aae ?_;refine BC ?_;refine DH ?_;refine AV ?_;refine Adk ?_;refine Adk ?_;refine Ac5 ?_;exact AT (res2 rfl rfl rfl) rsubZ selZ ⟨emp,⟨_,rfl,OwnS.nil _ _⟩,rfl⟩
  by_cases k3:s<1
  ·refine BO ?_
   refine Aa6 ?_;refine Aa8 ?_;refine A7 ?_;refine Ac8 ?_;refine Aae ?_;refine BC ?_;refine CM ?_;refine AV ?_;refine Ac8 ?_;refine BK ?_;refine AV ?_;refine Adk ?_;refine Ac5 ?_;exact AT (res2 rfl rfl rfl) rsubZ selZ ⟨emp,⟨_,rfl,OwnS.nil _ _⟩,rfl⟩
  ·refine BO ?_
   refine Aa6 ?_;refine Aa8 ?_;refine A7 ?_;refine Ac8 ?_;refine Aae ?_;refine BC ?_;refine CM ?_;refine AV ?_;refine Ac8 ?_;refine A7 ?_;refine AV ?_;refine Ac8 ?_;refine CS ?_;refine AV ?_;refine Ac5 ?_;exact AT (res2 rfl rfl rfl) rsubZ selZ ⟨emp,⟨_,rfl,OwnS.nil _ _⟩,rfl⟩
 have hR:freeRes qs cs l n s=(freeP (qs.getD n.toNat 0) s (lvH l n),0):=by unfold freeRes; rw [if_neg (fun h=>h h0),if_neg hbad]
 rw [hR]
 obtain ⟨nn,rfl⟩:=Int.eq_ofNat_of_zero_le (show 0≤n by omega)
 have hQ:=List.getElem?_eq_getElem (show nn<qs.length by omega)
 have hgd:qs.getD (nn:Int).toNat 0=qs[nn]:=by rw [Int.toNat_natCast,List.getD_eq_getElem?_getD,hQ]; rfl
 rw [hgd]
 have hQb:=(chkPl_quo (chkH_pl h0)).2 nn _ hQ
 generalize qs[nn]=Q at hQ hQb
 refine BO ?_;refine Aa6 ?_;refine Aa8 ?_;refine A7 ?_;refine Ac8 ?_;refine Aae ?_;refine BC ?_;refine CM ?_;refine AV ?_;refine Ac8 ?_;refine A7 ?_;refine AV ?_;refine Ac8 ?_;refine BW ?_;refine Ab3 ?_;refine Aa ?_;refine CB ?_; rintro _ _ ⟨b,rfl,rfl⟩;refine AE ?_;refine Aa ?_;refine CB ?_; rintro _ _ ⟨b,rfl,rfl⟩;refine BM ?_; rintro _ _ ⟨rfl,rfl⟩;refine AE ?_;refine Aa ?_;refine B3 ?_;refine CB ?_; rintro _ _ ⟨b,rfl,rfl⟩;refine BM ?_; rintro _ _ ⟨rfl,rfl⟩;refine AE ?_;refine Aa ?_;refine B3 ?_;refine Abo ?_
 revert b; intro b12
 revert b; intro bf
 revert b; intro bo
 refine AQ (ρ:=sng b12 _) takeZ ?_
 have bx252_3:=rdB b12 247 [fnEnd bf bo]
 have c12:=rdC bx252_3 0
 refine BA (at_spec ρ b4 b6 b7 b12 bf bo _ pq kq qs nn Q s (-1) 0 0 _ [] emp hq hQ hQb (by omega) (OwnS.nil _ _) (by simp)) rfl rfl takesZ rdZ rfl rfl ?_
 rintro _ _ ⟨rfl,u1,σ1,hO1,rfl⟩;refine Aam ?_;refine Aab ?_;refine AF ?_
 refine CJ (levels_spec σ _ l nn qs.length hv2 hok (by omega)) rfl rfl rdZ rfl rfl ?_
 rintro ul σl hOl
 have hL:LvAt σl ul (lvH l nn):=hOl.at
 have hll:=lvH_len l nn
 have hlv:∀ x∈lvH l nn,0≤x.v∧x.v≤1099511627776:=fun x hx=>by
  have h1:=(comb_mem hx).1
  have h2:=stored_bd (n:=nn) (t:=x.a) hok
  omega
 unfold freeP
 generalize lvH l nn=f at hOl hL hll hlv
 have hF:f.foldl (frL Q s) (frA Q s (-1,[]) 0 0)=frS Q s f f.length:=by unfold frS; rw [List.take_length]
 rw [hF]
 have hS0:frA Q s (-1,[]) 0 0=frS Q s f 0:=rfl
 rw [hS0] at hO1;rw [hS0]
 obtain ⟨pl,cl,rfl,hrl⟩:=hL.val encV_len
 refine AQ (ρ:=σl) takeZ ?_;refine Abk ?_
 refine BF [10,12,13,43,44] (X:=Nat × (Value × PH)) (0,(u1,σ1)) (fun x=>x.1≤f.length∧OwnS 182 2 x.2.1 (frS Q s f x.1).2.length ((frS Q s f x.1).2.flatMap encS) x.2.2) (fun x=>[(45,int x.1)]) (fun x=>[sng bf (.cells #[int (frS Q s f x.1).1] 3 (0,0)),sng bo (.cells #[x.2.1] 169 (0,0)),x.2.2]) (fun x=>f.length-x.1) pickZ ⟨by dsimp only; omega,hO1⟩ covZ selZ ?_
 clear hO1;rintro ⟨k,u,σk⟩ ⟨hk,hO⟩
 dsimp only at hk hO ⊢
 have hsl:=frS_len Q s f k
 by_cases hlt:k<f.length
 ·have hx:=List.getElem?_eq_getElem hlt
  have hvx:=hlv _ (List.getElem_mem hlt)
  obtain ⟨b2,o2,rfl,hrd,_,_⟩:=lvRow hrl hx
  have hn:=frS_next Q s hx
  generalize f[k]=x at hrd hvx hn
  generalize hst:frS Q s f k=st at hO hsl hn
  obtain ⟨fr,out⟩:=st
  dsimp only at hO hsl ⊢
  by_cases hm:x.a<1099511627776
  ·have e:frL Q s (fr,out) x=frA Q s (fr,out) x.a x.v:=by unfold frL; rw [if_pos hm]
   rw [e] at hn;refine Ab2 ?_;refine A4 ?_; rintro _ _ ⟨b,rfl,rfl⟩;refine AW ?_; rintro _ _ ⟨rfl,rfl⟩;refine Aca ?_;refine Abp ?_;refine AA ?_;refine Abu ?_
   refine BA (at_spec ρ b4 b6 b7 b12 bf bo _ pq kq qs nn Q s fr x.a x.v u out σk hq hQ hQb hvx hO (by omega)) rfl rfl takesZ rdZ rfl rfl ?_
   rw [← hn];rintro _ _ ⟨rfl,u2,σ2,hO2,rfl⟩;refine AE ?_;refine Aa3 ?_
   exact AY (k+1,(u2,σ2)) ⟨by dsimp only; omega,hO2⟩ (by dsimp only; omega) covZ selZ
  ·have e:frL Q s (fr,out) x=(fr,out):=by unfold frL; rw [if_neg hm]
   rw [e] at hn;refine Ab2 ?_;refine A4 ?_; rintro _ _ ⟨b,rfl,rfl⟩;refine AW ?_; rintro _ _ ⟨rfl,rfl⟩;refine Aca ?_;refine A7 ?_;refine Acg ?_
   refine AY (k+1,(u,σk)) ⟨by dsimp only; omega,by dsimp only; rw [hn]; exact hO⟩ (by dsimp only; omega) covZ ?_
   dsimp only
   rw [hn];exact selZ
 ·have hke:k=f.length:=by omega
  subst hke
  generalize frS Q s f f.length=st at hO hsl
  obtain ⟨fr,out⟩:=st
  dsimp only at hO hsl ⊢
  refine Abl ?_;refine Aa8 ?_
  refine BA (end_spec bf bo fr 1099511627776 u out σk hO (by omega)) rfl rfl takesZ (fun τ hτ=>by simp at hτ) rfl rfl ?_
  rintro _ _ ⟨rfl,u2,σ2,hO2,rfl⟩;refine Ac3 ?_;refine Ab ?_;exact AT (res2 rfl rfl rfl) rsubZ selZ ⟨σ2,⟨u2,rfl,hO2⟩,rfl⟩
def encRq (q:Rq):List Value:=[int q.src,int q.dst,int q.size,int q.rdy,int q.dln,int q.pri,.bool q.cus]
def encRaw (v:Value):List Value:=[v]
theorem encRaw_len (v:Value):(encRaw v).length=1:=rfl
structure RawS (γ:PH) (raw:List Value) (L:List (List (Int × Int))):Prop where
 len:raw.length=L.length
 get:∀ (i:Nat) (l:List (Int × Int)),L[i]?=some l→∃ q k,raw[i]?=some (Value.slice q l.length k)∧SlE encS 2 γ (.slice q l.length k) l
theorem RawS.nil:RawS emp [] []:=⟨rfl,fun i l h=>by simp at h⟩
theorem RawS.snoc {γ δ χ:PH} {raw:List Value} {L:List (List (Int × Int))} (h:RawS γ raw L) (s1:PH.sub γ δ) {v:Value} {l:List (Int × Int)} (hv:SlE encS 2 χ v l) (s2:PH.sub χ δ):RawS δ (raw ++ [v]) (L ++ [l]):=by
 refine ⟨by rw [List.length_append,List.length_append,h.len]; rfl,fun i l' hl=>?_⟩
 by_cases hi:i<L.length
 ·rw [List.getElem?_append_left hi] at hl
  obtain ⟨q,k,e1,e2⟩:=h.get i l' hl
  exact ⟨q,k,by rw [List.getElem?_append_left (by rw [h.len]; exact hi)]; exact e1,e2.mono s1⟩
 ·have hi2:=(List.getElem?_eq_some_iff.1 hl).1
  rw [List.length_append,List.length_singleton] at hi2
  have:i=L.length:=by omega
  subst this
  rw [List.getElem?_append_right (by omega),Nat.sub_self] at hl
  obtain rfl:l=l':=by simpa using hl
  obtain ⟨p,c,rfl,_⟩:=SlE.val (enc:=encS) encS_len hv
  refine ⟨p,c,?_,hv.mono s2⟩
  rw [List.getElem?_append_right (by rw [h.len]; omega),h.len,Nat.sub_self]
  rfl
theorem RawS.sps {γ δ χ:PH} {raw:List Value} {L:List (List (Int × Int))} (h:RawS γ raw L) {T:TypeId} {v:Value} (hO:OwnS T 1 v raw.length (raw.flatMap encRaw) χ) (s1:PH.sub γ δ) (s2:PH.sub χ δ):∃ p k,v=.slice p L.length k∧SpsAt δ p L:=by
 obtain ⟨p,k,e,hr⟩:=SlE.val (enc:=encRaw) encRaw_len (show SlE encRaw 1 χ v raw from hO.at)
 refine ⟨p,k,by rw [e,h.len],fun i l hl=>?_⟩
 obtain ⟨q,c,e1,e2⟩:=h.get i l hl
 obtain ⟨b,o,e3,hrd⟩:=hr i _ e1
 have:=s2.rdc (hrd.get0 (v:=.slice q l.length c) (vs:=[]))
 rw [Nat.mul_one] at this;exact ⟨b,o,q,c,e3,this,e2.mono s1⟩
theorem rowsE_mono {α:Type} {enc:α→List Value} {s:Nat} {ρ γ:PH} {p:Option Addr} {l:List α} (h:RowsE enc s ρ p l) (hs:PH.sub ρ γ):RowsE enc s γ p l:=fun i x hx=>by
 obtain ⟨b,o,e,hr⟩:=h i x hx
 exact ⟨b,o,e,fun j v hv=>hs.rdc (hr j v hv)⟩
theorem creq_spec {ρ τ:PH} {pq pc:Option Addr} {kq kc:Nat} {qs:List Int} {cs:List Ct} {q:Rq} (hq:IntsAt ρ (.slice pq qs.length kq) qs) (hc:CtAt τ (.slice pc cs.length kc) cs) (hcap:cs.length≤kc) (lq:qs.length≤9223372036854775807) (lc:cs.length≤9223372036854775807) (hp:chkPl qs cs=0) (ho:okRq qs.length q) :
  Ans Tryz.prog (fv 27) [.agg #[.slice pq qs.length kq,.slice pc cs.length kc],.agg #[int q.src,int q.dst,int q.size,int q.rdy,int q.dln,int q.pri,.bool q.cus]] [ρ,τ] (fun r=>r=int 0):=by
 obtain ⟨⟨a1,a2,a3,a4⟩,a5,⟨a6,a7,a8,a9,a10⟩,a11,a12⟩:=ho
 have hck:=planCheck_spec ρ τ pq pc kq kc qs cs hq hc hcap lq lc
 rw [hp] at hck
 refine spec_in (cap:=[]) Tryz.func27 rfl rfl Tryz.ntmps27 rfl envZ (fun N β=>?_)
 refine Aa ?_;refine BH (BI rfl) rfl rfl rfl ?_;rintro _ _ ⟨b2,rfl,rfl⟩;refine BH (BI rfl) rfl rfl rfl ?_;rintro _ _ ⟨b3,rfl,rfl⟩;refine AQ (ρ:=sng b2 _) takeZ ?_;refine AQ (ρ:=sng b3 _) takeZ ?_
 have cp:=rdB b2 25 [.slice pq qs.length kq,.slice pc cs.length kc]
 have p0:=rdC cp 0
 have bx63_3:=rdB b3 28 [int q.src,int q.dst,int q.size,int q.rdy,int q.dln,int q.pri,.bool q.cus]
 have r0:=rdC bx63_3 0
 have r1:=rdC bx63_3 1
 have r2:=rdC bx63_3 2
 have r3:=rdC bx63_3 3
 have r4:=rdC bx63_3 4
 have r5:=rdC bx63_3 5
 refine Abx ?_;refine BC ?_;refine Adc ?_;refine Aas ?_;refine AZ hck rfl rfl rdZ rfl rfl ?_;rintro _ rfl;refine BO ?_;refine Aaa ?_;refine AI rfl ?_;refine Aan ?_;refine A7 ?_;refine Aay ?_;refine AB ?_;refine CM ?_;refine Ac0 ?_;refine A7 ?_;refine Ac0 ?_;refine AB ?_;refine CM ?_;refine Acl ?_;refine AI rfl ?_;refine Adq ?_;refine CA ?_;refine Aaa ?_;refine AI rfl ?_;refine Aan ?_;refine A7 ?_;refine Aay ?_;refine BW ?_;refine Ac0 ?_;refine A7 ?_;refine AV ?_;refine Abu ?_;refine BW ?_;refine Ac0 ?_;refine BW ?_;refine Acl ?_;refine AI rfl ?_;refine Aan ?_;refine A7 ?_;refine Aay ?_;refine BW ?_;refine Acl ?_;refine AI rfl ?_;refine AJ ?_;refine A6 ?_;refine Aaq ?_;exact A3 ⟨rfl,rfl⟩
theorem build_spec {ρ τ σ υ:PH} {pq pc pb ph:Option Addr} {kq kc kb kh:Nat} {qs:List Int} {cs:List Ct} {bs:List Bk} {hs:List Hd} {q:Rq} (hT:TbAt ρ τ σ υ pq pc pb ph kq kc kb kh qs cs bs hs) (hK:TOK qs cs bs hs q) :
  Makes Tryz.prog (fv 23) [.agg #[.slice pq qs.length kq,.slice pc cs.length kc,.slice pb bs.length kb,.slice ph hs.length kh],.agg #[int q.src,int q.dst,int q.size,int q.rdy,int q.dln,int q.pri,.bool q.cus]] [ρ,τ,σ,υ] (fun r χ=>∃ A,r=.tuple #[gp A,.bool true]∧GrAt χ τ A (grOf qs cs bs hs q)):=by
 obtain ⟨hp,hb0,hh⟩:=chkT_ok hK.t
 have hct:=chkTab_spec hT
 rw [hK.t] at hct
 have hcr:=creq_spec (q:=q) hT.hq hT.hc hT.hcap hT.lq hT.lc hp hK.q
 have hlq:=hK.lq
 have hlc:=hK.lc
 have hlq1:=(chkPl_ok hp).1.1
 have hsz:1≤q.size∧q.size≤65536:=⟨hK.q.2.2.1.1,hK.q.2.2.1.2.1⟩
 refine spec_in (cap:=[]) Tryz.func23 rfl rfl Tryz.ntmps23 rfl envZ (fun N β=>?_)
 refine Aa ?_;refine BH (BI rfl) rfl rfl rfl ?_;rintro _ _ ⟨b2,rfl,rfl⟩;refine BH (BI rfl) rfl rfl rfl ?_;rintro _ _ ⟨b3,rfl,rfl⟩;refine AQ (ρ:=sng b2 _) takeZ ?_;refine AQ (ρ:=sng b3 _) takeZ ?_
 have ct:=rdB b2 42 [.slice pq qs.length kq,.slice pc cs.length kc,.slice pb bs.length kb,.slice ph hs.length kh]
 have ct0:=rdC ct 0
 have ct1:=rdC ct 1
 have ct2:=rdC ct 2
 have ct3:=rdC ct 3
 have ctp:=rdQ (xs:=[_,_]) ct
 have cr:=rdB b3 28 [int q.src,int q.dst,int q.size,int q.rdy,int q.dln,int q.pri,.bool q.cus]
 have r2:=rdC cr 2
 refine Ace ?_;refine Aas ?_;refine AZ hct rfl rfl rdZ rfl rfl ?_;rintro _ rfl;refine BO ?_;refine AB ?_;refine Ab7 ?_;refine AK ?_;refine AZ hcr rfl rfl rdZ rfl rfl ?_;rintro _ rfl;refine BO ?_;refine Ab3 ?_;refine Ac ?_;refine CK (CT (out:=[.slice pq qs.length kq,.slice pc cs.length kc,.slice pb bs.length kb,.slice ph hs.length kh,int q.src,int q.dst,int q.size,int q.rdy,int q.dln,int q.pri,.bool q.cus,.slice none 0 0,.slice none 0 0,.slice none 0 0]) rfl rfl rfl rfl rfl) rfl rfl rfl ?_;refine BH (BI rfl) rfl rfl rfl ?_;rintro _ _ ⟨bG,rfl,rfl⟩;refine CC ?_;refine CC ?_;refine CC ?_;refine Aaj ?_;refine Aa ?_;refine Ac2 ?_;refine Abk ?_
 refine BF [2,3,4,6,32,33] (X:=(Nat × List Value) × ((Value × PH) × (Value × PH) × PH)) ((0,[]),((.slice none 0 0,emp),(.slice none 0 0,emp),emp)) (fun z=>z.1.1≤cs.length∧OwnS 169 1 z.2.1.1 z.1.2.length (z.1.2.flatMap encRaw) z.2.1.2∧OwnS 3 1 z.2.2.1.1 ((cs.take z.1.1).map (fun c=>durC c q.size)).length (((cs.take z.1.1).map (fun c=>durC c q.size)).flatMap Eng.encI) z.2.2.1.2∧RawS z.2.2.2 z.1.2 ((List.range z.1.1).map (freeC cs bs))) (fun z=>[(34,int z.1.1)]) (fun z=>[sng bG (.cells #[.slice pq qs.length kq,.slice pc cs.length kc,.slice pb bs.length kb,.slice ph hs.length kh,int q.src,int q.dst,int q.size,int q.rdy,int q.dln,int q.pri,.bool q.cus,z.2.1.1,.slice none 0 0,z.2.2.1.1] 168 (0,0)),z.2.1.2,z.2.2.1.2,z.2.2.2]) (fun z=>cs.length-z.1.1) pickZ ⟨by dsimp only; omega,OwnS.nil _ _,OwnS.nil _ _,RawS.nil⟩ covZ selZ ?_
 rintro ⟨⟨k,raw⟩,⟨⟨gv,χg⟩,⟨dv,χd⟩,γ⟩⟩ ⟨hk,hOg,hOd,hR⟩
 dsimp only at hk hOg hOd hR ⊢
 have hg1:=oneO _ _ _ _ hOg
 have hd1:=oneO _ _ _ _ hOd
 have hrl:=hR.len
 rw [List.length_map,List.length_range] at hrl
 by_cases hlt:k<cs.length
 ·have hx:=List.getElem?_eq_getElem hlt
  have hck:=(Go.Step.chkPl_ct hp (List.mem_of_getElem? hx)).1
  have hfr:=bkFree_spec hT k _ hx hb0
  have hdu:=dur_spec cs[k] q.size hck hsz
  have hdl:((cs.take k).map (fun c=>durC c q.size)).length=k:=by rw [List.length_map,List.length_take]; omega
  have hdn:(cs.take (k+1)).map (fun c=>durC c q.size)=(cs.take k).map (fun c=>durC c q.size) ++ [durC cs[k] q.size]:=by rw [List.take_add_one,hx,List.map_append]; rfl
  have hgn:(List.range (k+1)).map (freeC cs bs)=(List.range k).map (freeC cs bs) ++ [freeC cs bs k]:=by rw [List.range_succ,List.map_append]; rfl
  generalize (cs.take k).map (fun c=>durC c q.size)=Ds at hOd hdl hdn
  generalize freeC cs bs k=F at hfr hgn
  obtain ⟨bq,oq,rfl,hrd⟩:=ctRow hT.rc hx
  generalize cs[k]=c at hx hck hdu hdn hrd
  refine Aa7 ?_;refine Aab ?_;refine Abb ?_;refine A4 ?_; rintro _ _ ⟨b,rfl,rfl⟩;refine AD ?_;refine AW ?_; rintro _ _ ⟨rfl,rfl⟩;refine AE ?_;refine Acn ?_;refine Aae ?_;refine AB ?_
  revert b; intro b8
  refine CJ hfr rfl rfl rdZ rfl rfl ?_;rintro _ χ ⟨u,rfl,hO⟩
  obtain ⟨pu,ku,rfl⟩:=hO.form
  have hSu:SlE encS 2 χ (.slice pu F.length ku) F:=hO.at
  refine Abv ?_;refine Ab ?_;refine Aas ?_;refine Aae ?_;refine AZ hdu rfl rfl rdZ rfl rfl ?_;rintro _ rfl;refine Abv ?_;refine Ab ?_
  generalize durC c q.size=dd at hdn
  refine C9 (X:=(Value × PH) × (Value × PH)) [2,3,4,6,32,33,34] (fun x=>OwnS 169 1 x.1.1 (raw ++ [Value.slice pu F.length ku]).length ((raw ++ [Value.slice pu F.length ku]).flatMap encRaw) x.1.2∧OwnS 3 1 x.2.1 (Ds ++ [dd]).length ((Ds ++ [dd]).flatMap Eng.encI) x.2.2) (fun _=>[]) (fun x=>[sng bG (.cells #[.slice pq qs.length kq,.slice (some ⟨bq,oq,none⟩) cs.length kc,.slice pb bs.length kb,.slice ph hs.length kh,int q.src,int q.dst,int q.size,int q.rdy,int q.dln,int q.pri,.bool q.cus,x.1.1,.slice none 0 0,x.2.1] 168 (0,0)),x.1.2,x.2.2,γ,χ]) pickZ ?_ ?_
  ·refine BD (.p 0 (.p 1 (.q 2 (.q 3 (.q 4 (.q 5 (.q 6 (.p 9 (.p 10 (.p 11 (.p 12 (.p 13 (.l2 7 .e (.l2 8 .b (.l 14 .e (.l 15 .b (.q 16 (.q 17 (.l 18 .b (.q 19 (.q 20 (.l 21 .b .nil)))))))) 14 .e (.l 8 .b (.l 15 .b (.q 16 (.q 17 (.l 18 .b (.q 19 (.q 20 (.l 21 .b .nil))))))))) 14 .e (.l 7 .e (.l 8 .b (.l 15 .b (.q 16 (.q 17 (.l 18 .b (.q 19 (.q 20 (.l 21 .b .nil)))))))))))))))))))))) [sng bG _] rfl (by kernel_rfl) selZ ?_
   repeat' (first
    | (refine AM ?_)
    | (refine AP ?_)
    | (refine AS ?_)
    | (refine BG ?_)
    | (refine CD ?_)
    | (refine EQ ?_)
    | (refine EB ?_)
    | (refine ER ?_)
    | (refine EE ?_ ?_)
    | (refine B5 ?_; rintro _ _ ⟨b,rfl,rfl⟩)
    | (refine ED ?_; rintro _ _ ⟨b,rfl,rfl⟩)
    | fail)
   all_goals (try refine B4 ?_)
   all_goals (refine' a_b rfl _ rfl rfl rfl _ _; rotate_left; (focus (exact CG (by_:=24) (s:=1) (news:=[Value.slice pu F.length ku]) rfl rfl rfl rfl rfl rfl rfl hOg takeZ (cells_own memZ) rfl oneZ (by omega) (by simp only [maxLen]; omega) (by omega))); (focus (rintro _ _ ⟨_,_,rfl⟩ w hw; exact hw.sel selZ)); rintro q1 _ ⟨ρ1,hQ1,rfl⟩)
   all_goals have h1:=oneO _ _ _ _ hQ1
   repeat' (first
    | (refine B5 ?_; rintro _ _ ⟨b,rfl,rfl⟩)
    | fail)
   all_goals (refine B4 ?_; refine' a_b rfl _ rfl rfl rfl _ _; rotate_left; (focus (exact CG (by_:=8) (s:=1) (news:=[int dd]) rfl rfl rfl rfl rfl rfl rfl hOd takeZ (cells_own memZ) rfl oneZ (by omega) (by simp only [maxLen]; omega) (by omega))); (focus (rintro _ _ ⟨_,_,rfl⟩ w hw; exact hw.sel selZ)); rintro q2 _ ⟨ρ2,hQ2,rfl⟩)
   all_goals have h2:=oneO _ _ _ _ hQ2
   repeat' (first
    | (refine AS ?_)
    | (refine BG ?_)
    | fail)
   all_goals (refine B4 ?_; refine' GF rfl _ rfl (.inr ⟨rfl,rfl⟩) (by kernel_rfl) (Hf':=[]) _ _; rotate_left; (focus (apply D7; exact rfl; exact rfl; exact h1; exact rfl; exact takeZ; (focus (repeat (first|exact SetL.here|apply SetL.there)); done))); (focus (rintro _ _ ⟨_,rfl⟩ w hw; exact hw.sel selZ)); rintro _ _ ⟨rfl,rfl⟩)
   repeat' (first
    | (refine AS ?_)
    | (refine BG ?_)
    | (refine BE ?_)
    | (refine CN ?_; rintro _ _ ⟨rfl,rfl⟩)
    | fail)
   all_goals exact B8 ((q1,ρ1),(q2,ρ2)) ⟨by rw [List.length_append,List.flatMap_append]; exact hQ1,by rw [List.length_append,List.flatMap_append]; exact hQ2⟩ covZ selZ
  rintro ⟨⟨q1,ρ1⟩,⟨q2,ρ2⟩⟩ ⟨hQ1,hQ2⟩
  dsimp only at hQ1 hQ2 ⊢
  refine DM (ρ:=γ) (σ:=χ) takeZ takeZ (fun δ s1 s2=>?_)
  refine Aa3 ?_
  refine AY ((k+1,raw ++ [Value.slice pu F.length ku]),((q1,ρ1),(q2,ρ2),δ)) ⟨by dsimp only; omega,hQ1,?_,?_⟩ (by dsimp only; omega) covZ selZ
  ·dsimp only
   rw [hdn]; exact hQ2
  ·dsimp only
   rw [hgn]; exact hR.snoc s1 hSu s2
 have hke:k=cs.length:=by omega
 subst hke;rw [List.take_length] at hOd;refine CC ?_;refine CC ?_;refine Abl ?_;refine AC ?_;refine Aa ?_;refine Ac2 ?_;refine Abk ?_
 refine BF [2,3,4,6,78,79] (X:=(Nat × List Value) × ((Value × PH) × PH)) ((0,[]),((.slice none 0 0,emp),emp)) (fun z=>z.1.1≤qs.length∧OwnS 169 1 z.2.1.1 z.1.2.length (z.1.2.flatMap encRaw) z.2.1.2∧RawS z.2.2 z.1.2 ((List.range z.1.1).map (fun n=>freeP (qs.getD n 0) q.size (lvH hs n)))) (fun z=>[(80,int z.1.1)]) (fun z=>[sng bG (.cells #[.slice pq qs.length kq,.slice pc cs.length kc,.slice pb bs.length kb,.slice ph hs.length kh,int q.src,int q.dst,int q.size,int q.rdy,int q.dln,int q.pri,.bool q.cus,gv,z.2.1.1,dv] 168 (0,0)),z.2.1.2,z.2.2,χg,χd,γ]) (fun z=>qs.length-z.1.1) pickZ ⟨by dsimp only; omega,OwnS.nil _ _,RawS.nil⟩ covZ selZ ?_
 rintro ⟨⟨k,raw2⟩,⟨⟨rv,χr⟩,γ2⟩⟩ ⟨hk,hOr,hR2⟩
 dsimp only at hk hOr hR2 ⊢
 have hr1:=oneO _ _ _ _ hOr
 have hrl2:=hR2.len
 rw [List.length_map,List.length_range] at hrl2
 by_cases hlt:k<qs.length
 ·have hfr:=free_spec ρ τ υ pq pc kq kc qs cs _ hs (k:Int) q.size hT.hq hT.hc hT.hcap hT.lq hT.lc hT.hh hT.lh
  have hfe:freeRes qs cs hs (k:Int) q.size=(freeP (qs.getD k 0) q.size (lvH hs k),0):=by
   unfold freeRes
   rw [if_neg (by simp [hh]),if_neg (by omega),Int.toNat_natCast]
  rw [hfe] at hfr
  dsimp only at hfr
  have hgn:(List.range (k+1)).map (fun n:Nat=>freeP (qs.getD n 0) q.size (lvH hs n))=(List.range k).map (fun n:Nat=>freeP (qs.getD n 0) q.size (lvH hs n)) ++ [freeP (qs.getD k 0) q.size (lvH hs k)]:=by rw [List.range_succ,List.map_append]; rfl
  generalize freeP (qs.getD k 0) q.size (lvH hs k)=R at hfr hgn
  refine Ado ?_;refine Acn ?_;refine Aae ?_;refine Aay ?_;refine CJ hfr rfl rfl rdZ rfl rfl ?_;rintro _ χ ⟨u,rfl,hO⟩
  obtain ⟨pu,ku,rfl⟩:=hO.form
  have hSu:SlE encS 2 χ (.slice pu R.length ku) R:=hO.at
  refine Abv ?_;refine Ab ?_;refine Aba ?_;refine BT ?_;refine Aae ?_;refine AB ?_;refine BQ ?_; rintro _ _ ⟨b,rfl,rfl⟩
  refine BH (CG (by_:=24) (s:=1) (news:=[Value.slice pu R.length ku]) rfl rfl rfl rfl rfl rfl rfl hOr takeZ (cells_own memZ) rfl oneZ (by omega) (by simp only [maxLen]; omega) (by omega)) rfl rfl rfl ?_
  rintro q1 _ ⟨ρ1,hQ1,rfl⟩
  have h1:=oneO _ _ _ _ hQ1
  refine BT ?_;refine AG ?_;refine BM ?_; rintro _ _ ⟨rfl,rfl⟩;refine AE ?_;refine Aa3 ?_
  refine DM (ρ:=γ2) (σ:=χ) takeZ takeZ (fun δ s1 s2=>?_)
  refine AY ((k+1,raw2 ++ [Value.slice pu R.length ku]),((q1,ρ1),δ)) ⟨by dsimp only; omega,?_,?_⟩ (by dsimp only; omega) covZ selZ
  ·dsimp only
   rw [List.length_append,List.flatMap_append]; exact hQ1
  ·dsimp only
   rw [hgn]; exact hR2.snoc s1 hSu s2
 have hke:k=qs.length:=by omega
 subst hke;refine Abl ?_;refine Aab ?_;refine Ab ?_
 refine D4 (A:=[sng bG (.cells #[.slice pq qs.length kq,.slice pc cs.length kc,.slice pb bs.length kb,.slice ph hs.length kh,int q.src,int q.dst,int q.size,int q.rdy,int q.dln,int q.pri,.bool q.cus,gv,rv,dv] 168 (0,0)),χr,γ2,χg,χd,γ]) (B:=[]) (fun δ hδ=>?_)
 have sB:=hδ _ (.head _)
 have sr:=hδ χr (by simp)
 have s2:=hδ γ2 (by simp)
 have sg:=hδ χg (by simp)
 have sd:=hδ χd (by simp)
 have s1:=hδ γ (by simp)
 obtain ⟨pg,kg,rfl,hpg⟩:=hR.sps hOg s1 sg
 obtain ⟨pr,kr,rfl,hpr⟩:=hR2.sps hOr s2 sr
 obtain ⟨pd,kd,rfl,hpd⟩:=SlE.val (enc:=Eng.encI) Eng.encI_len (show SlE Eng.encI 1 χd dv (cs.map (fun c=>durC c q.size)) from hOd.at)
 have cell:∀ i v,[.slice pq qs.length kq,.slice pc cs.length kc,.slice pb bs.length kb,.slice ph hs.length kh,int q.src,int q.dst,int q.size,int q.rdy,int q.dln,int q.pri,.bool q.cus,.slice pg ((List.range cs.length).map (freeC cs bs)).length kg,.slice pr ((List.range qs.length).map (fun n:Nat=>freeP (qs.getD n 0) q.size (lvH hs n))).length kr,.slice pd (cs.map (fun c=>durC c q.size)).length kd][i]?=some v→rdc δ bG i=some v:=fun i v hv=>sB.rdc (by rw [rdc_sng]; simpa using hv)
 refine AT (res2 rfl rfl rfl) rsubZ selZ ⟨δ,⟨⟨bG,pq,qs.length,kq,pc,kc,pg,kg,pr,kr,pd,kd⟩,rfl,?_⟩,rfl⟩
 exact ⟨cell 0 _ rfl,by simp [grOf],cell 1 _ rfl,cell 4 _ rfl,cell 5 _ rfl,cell 7 _ rfl,cell 8 _ rfl,cell 10 _ rfl,cell 11 _ rfl,cell 12 _ rfl,cell 13 _ rfl,hT.rc,hpg,hpr,rowsE_mono hpd sd⟩
end Go.Proofs.YtglifndogffmkaaGreat
namespace Go.Step
theorem hopB_mono {fr fr' d:Int} (hd:0≤d) (hf:fr'≤fr):∀ {L:List (Int × Int)},L.Pairwise (fun x y=>x.2<y.1)→∀ {b:Int},hopB fr d L=some b→∃ b',hopB fr' d L=some b'∧b'≤b
  | [],_,b,h=>by cases h
  | p::l,hP,b,h=>by
    obtain ⟨h1,h2⟩:=List.pairwise_cons.1 hP
    unfold hopB at h ⊢
    by_cases c:max p.1 fr+d≤p.2
    · rw [if_pos c] at h
      cases h
      rw [if_pos (by omega)]
      exact ⟨_,rfl,by omega⟩
    · rw [if_neg c] at h
      by_cases c':max p.1 fr'+d≤p.2
      · rw [if_pos c']
        obtain ⟨q,hq,rfl,_⟩:=hopB_ok h
        have:=h1 q hq
        exact ⟨_,rfl,by omega⟩
      · rw [if_neg c']
        exact hopB_mono hd hf h2 h
theorem hopR_mono {G:Gr} (hg:GOK G) (ha:∀ i,(G.gaps.getD i []).Pairwise (fun x y=>x.2<y.1)) {i:Nat} {c:Ct} {fr fr':Int} (hf:fr'≤fr) {h:Hp} (hh:hopR G i c fr=some h):∃ h',hopR G i c fr'=some h'∧h'.a≤h.a∧h'.e≤h.e:=by
  have hd:0≤G.dur.getD i 0:=by
    rw [List.getD_eq_getElem?_getD]
    cases e:G.dur[i]? with
    | none=>simp
    | some d=>have:=hg.dur d (List.mem_of_getElem? e); simp; omega
  unfold hopR at hh ⊢;rw [Option.map_eq_some_iff] at hh
  obtain ⟨b,h1,rfl⟩:=hh
  obtain ⟨b',h2,h3⟩:=hopB_mono hd hf (ha i) h1
  rw [h2]
  exact ⟨_,rfl,by dsimp only; omega,by dsimp only; omega⟩
theorem mvs_earlier {G:Gr} (hg:GOK G) (ha:∀ i,(G.gaps.getD i []).Pairwise (fun x y=>x.2<y.1)) {x y:Lb} (hn:y.n=x.n) (ht:y.t=x.t) (hxy:y.a≤x.a) {m:Lb × Hp} (hm:m∈mvs G x):∃ m'∈mvs G y,m'.1.n=m.1.n∧m'.1.f=m.1.f∧m'.1.t=m.1.t∧m'.1.a≤m.1.a:=by
  obtain ⟨k,c,r,hc,hf,hr,hh,he,h1,h2,h3⟩:=mem_mvs hm
  obtain ⟨h',e1,e2,e3⟩:=hopR_mono hg ha (show max y.a r.1≤max x.a r.1 by omega) hh
  have hl:leaveR G c h'≤leaveR G c m.2:=by unfold leaveR; split <;> omega
  refine ⟨_,mvs_of hc (by rw [hf,hn]) hr e1 (by omega) (by omega) (fun h=>by have:=h3 h; omega),?_⟩
  rw [he];exact ⟨rfl,rfl,rfl,e2⟩
structure Ext (G G':Gr):Prop where
  rooms:G'.rooms=G.rooms
  q:G'.q=G.q
  mv:∀ x m,m∈mvs G x→m∈mvs G' x
theorem Ext.refl (G:Gr):Ext G G:=⟨rfl,rfl,fun _ _ h=>h⟩
theorem Ext.begs {G G':Gr} (h:Ext G G'):begs G'=begs G:=by unfold Go.Step.begs; rw [h.rooms,h.q]
theorem fine_to {G:Gr} (hg:GOK G) {x y:Lb} (hx:Fine G x) (hy:Fine G y) (hs:sameL y x=true):y.t=x.t:=by
  obtain ⟨e1,e2⟩:=sameL_iff.1 hs
  obtain ⟨_,x1,x2,x3,x4,x5⟩:=hx
  obtain ⟨_,y1,y2,y3,y4,y5⟩:=hy
  rw [e1,e2] at y3
  have hr:∃ l,G.rooms.getD x.n.toNat []=l∧l.Pairwise (fun p q=>p.2<q.1)∧∀ p∈l,p.1<p.2:=by
    have hlt:x.n.toNat<G.rooms.length:=by omega
    have h:=List.getElem?_eq_getElem hlt
    refine ⟨_,rfl,?_⟩;rw [List.getD_eq_getElem?_getD,h,Option.getD_some]
    have:=hg.room _ (List.mem_of_getElem? h)
    exact ⟨this.2.1,fun p hp=>(this.2.2 p hp).2.1⟩
  obtain ⟨l,hl,hp,h0⟩:=hr
  rw [hl] at x3 y3
  obtain ⟨i,hi,ei⟩:=List.getElem_of_mem x3
  obtain ⟨j,hj,ej⟩:=List.getElem_of_mem y3
  have hii:=h0 _ x3
  have hjj:=h0 _ y3
  dsimp only at hii hjj
  rcases Nat.lt_trichotomy i j with h|h|h
  · have:=List.pairwise_iff_getElem.1 hp i j hi hj h
    rw [ei,ej] at this
    dsimp only at this
    omega
  · subst h
    rw [ei] at ej
    simpa using (congrArg Prod.snd ej).symm
  · have:=List.pairwise_iff_getElem.1 hp j i hj hi h
    rw [ei,ej] at this
    dsimp only at this
    omega
theorem cov_rch {G G':Gr} (hg:GOK G') (ha:∀ i,(G'.gaps.getD i []).Pairwise (fun x y=>x.2<y.1)) (hE:Ext G G') {L:List Lb} (hL:LabR G' L) {x:Lb} (h:RchL G x):CovL L x∧RchL G' x:=by
  induction h with
  | beg h =>
    rw [← hE.begs] at h;exact ⟨hL.beg _ h,.beg h⟩
  | mv hx hm hn ih =>
    obtain ⟨⟨y,hy,hs,hle⟩,hr⟩:=ih
    have hm':=hE.mv _ _ hm
    obtain ⟨e1,e2⟩:=sameL_iff.1 hs
    have ht:=fine_to hg (rch_fine hg hr) (rch_fine hg (hL.rch y hy)) hs
    obtain ⟨m',h1,f1,f2,f3,f4⟩:=mvs_earlier hg ha e1 ht hle hm'
    rw [← hE.q] at hn
    obtain ⟨z,hz,hs2,hz2⟩:=hL.clo y hy m' h1 (by rw [f1]; exact hn)
    obtain ⟨g1,g2⟩:=sameL_iff.1 hs2
    exact ⟨⟨z,hz,sameL_iff.2 ⟨by rw [g1,f1],by rw [g2,f2]⟩,by omega⟩,.mv hr hm' hn⟩
theorem arrS_mono (G:Gr):∀ (l:List (Lb × Hp)) (o:Option Int),(∀ b,o=some b→∃ a,l.foldl (arrS G) o=some a∧a≤b)∧(∀ m∈l,m.1.n=G.q.dst→∃ a,l.foldl (arrS G) o=some a∧a≤m.1.a)∧(∀ a,l.foldl (arrS G) o=some a→o=some a∨∃ m∈l,m.1.n=G.q.dst∧m.1.a=a)
  | [],o=>⟨fun b h=>⟨b,by simp [h],by omega⟩,fun m h=>(by cases h),fun a h=>.inl (by simpa using h)⟩
  | x::l,o=>by
    obtain ⟨h1,h2,h3⟩:=arrS_mono G l (arrS G o x)
    have k1:∀ b,o=some b→∃ a,arrS G o x=some a∧a≤b:=fun b hb=>by
      subst hb
      by_cases c:x.1.n=G.q.dst
      · by_cases c2:x.1.a<b
        · exact ⟨_,arrS_lt c c2,by omega⟩
        · exact ⟨_,arrS_ge c c2,by omega⟩
      · exact ⟨_,arrS_no c _,by omega⟩
    have k2:x.1.n=G.q.dst→∃ a,arrS G o x=some a∧a≤x.1.a:=fun c=>by
      cases o with
      | none=>exact ⟨_,arrS_none c,by omega⟩
      | some b =>
        by_cases c2:x.1.a<b
        · exact ⟨_,arrS_lt c c2,by omega⟩
        · exact ⟨_,arrS_ge c c2,by omega⟩
    have k3:∀ a,arrS G o x=some a→o=some a∨(x.1.n=G.q.dst∧x.1.a=a):=fun a h=>by
      by_cases c:x.1.n=G.q.dst
      · cases o with
        | none=>rw [arrS_none c] at h; cases h; exact .inr ⟨c,rfl⟩
        | some b =>
          by_cases c2:x.1.a<b
          · rw [arrS_lt c c2] at h; cases h; exact .inr ⟨c,rfl⟩
          · rw [arrS_ge c c2] at h; exact .inl h
      · rw [arrS_no c] at h; exact .inl h
    refine ⟨fun b hb=>?_,fun m hm hn=>?_,fun a ha=>?_⟩
    · obtain ⟨a,e1,e2⟩:=k1 b hb
      obtain ⟨a',e3,e4⟩:=h1 a e1
      exact ⟨a',e3,by omega⟩
    · rcases List.mem_cons.1 hm with rfl|hm
      · obtain ⟨a,e1,e2⟩:=k2 hn
        obtain ⟨a',e3,e4⟩:=h1 a e1
        exact ⟨a',e3,by omega⟩
      · exact h2 m hm hn
    · rcases h3 a ha with h|⟨m,hm,hn⟩
      · rcases k3 a h with h|⟨h,h'⟩
        · exact .inl h
        · exact .inr ⟨x,by simp,h,h'⟩
      · exact .inr ⟨m,by simp [hm],hn⟩
theorem arr_le {G:Gr} {l:List Lb} {x:Lb} {m:Lb × Hp} (hx:x∈l) (hm:m∈mvs G x) (hn:m.1.n=G.q.dst):∃ a,arrR G l=some a∧a≤m.1.a:=(arrS_mono G _ none).2.1 m (List.mem_flatMap.2 ⟨x,hx,hm⟩) hn
theorem arr_some {G:Gr} {l:List Lb} {a:Int} (h:arrR G l=some a):∃ x∈l,∃ m∈mvs G x,m.1.n=G.q.dst∧m.1.a=a:=by
  rcases (arrS_mono G _ none).2.2 a h with h|⟨m,hm,hn⟩
  · cases h
  · obtain ⟨x,hx,hmx⟩:=List.mem_flatMap.1 hm
    exact ⟨x,hx,m,hmx,hn⟩
section
variable {qs:List Int} {cs:List Ct} {bs:List Bk} {hs:List Hd} {q:Rq} {c:Ct}
end
end Go.Step
namespace Go.Step
theorem lab_one {L:List Lb} (h:L.Pairwise (fun x y=>sameL x y=false)) {y z:Lb} (hy:y∈L) (hz:z∈L) (hs:sameL z y=true):z=y:=by
  obtain ⟨i,hi,rfl⟩:=List.getElem_of_mem hy
  obtain ⟨j,hj,rfl⟩:=List.getElem_of_mem hz
  rcases Nat.lt_trichotomy i j with c|c|c
  · have:=List.pairwise_iff_getElem.1 h i j hi hj c
    rw [sameL_iff.2 ⟨(sameL_iff.1 hs).1.symm,(sameL_iff.1 hs).2.symm⟩] at this
    cases this
  · subst c; rfl
  · have:=List.pairwise_iff_getElem.1 h j i hj hi c
    rw [hs] at this
    cases this
theorem bef_some {G:Gr} (hg:GOK G) (ha:∀ i,(G.gaps.getD i []).Pairwise (fun x y=>x.2<y.1)) {L:List Lb} (hL:LabR G L) {y:Lb} (hy:y∈L):y∈begs G∨∃ x∈L,∃ m∈mvs G x,m.1=y:=by
  cases hL.rch y hy with
  | beg h=>exact .inl h
  | @mv x0 m0 hx hm hn =>
    right
    obtain ⟨⟨x,hxL,hs,hle⟩,hr⟩:=cov_rch hg ha (Ext.refl G) hL hx
    have ht:=fine_to hg (rch_fine hg hr) (rch_fine hg (hL.rch x hxL)) hs
    obtain ⟨m,h1,f1,f2,f3,f4⟩:=mvs_earlier hg ha (sameL_iff.1 hs).1 ht hle hm
    obtain ⟨z,hz,hs2,hz2⟩:=hL.clo x hxL m h1 (by rw [f1]; exact hn)
    have hzy:z=m0.1:=lab_one hL.dis hy hz (sameL_iff.2 ⟨by rw [(sameL_iff.1 hs2).1,f1],by rw [(sameL_iff.1 hs2).2,f2]⟩)
    subst hzy;refine ⟨x,hxL,m,h1,?_⟩
    have e4:m.1.a=m0.1.a:=by omega
    generalize m.1=u at f1 f2 f3 e4
    obtain ⟨n,f,t,a⟩:=u
    dsimp only at f1 f2 f3 e4
    subst f1 f2 f3 e4
    rfl
inductive Way (G:Gr) (L:List Lb):List (Lb × Hp)→Lb→Prop
  | nil {x:Lb}:x∈L→x∈begs G→Way G L [] x
  | snoc {w:List (Lb × Hp)} {x:Lb} {m:Lb × Hp}:Way G L w x→x.n≠G.q.dst→m∈mvs G x→(m.1.n≠G.q.dst→m.1∈L)→Way G L (w ++ [(x,m.2)]) m.1
theorem Way.last {G:Gr} {L:List Lb} {w:List (Lb × Hp)} {x:Lb} (h:Way G L w x):x.n≠G.q.dst→x∈L:=by
  cases h with
  | nil h1 _=>exact fun _=>h1
  | snoc _ _ _ h=>exact h
theorem Way.times {G:Gr} (hg:GOK G) {L:List Lb} {w:List (Lb × Hp)} {x:Lb} (h:Way G L w x):(∀ p∈w,p.1.a<x.a)∧w.Pairwise (fun p q=>p.1.a<q.1.a)∧(∀ p∈w,p.1∈L)∧∀ p∈w,p.1.n≠G.q.dst:=by
  induction h with
  | nil _ _=>exact ⟨fun p h=>(by cases h),.nil,fun p h=>(by cases h),fun p h=>(by cases h)⟩
  | snoc hw hx hm hn ih =>
    obtain ⟨i1,i2,i3,i4⟩:=ih
    have hla:=(mvs_later hg hm).1
    refine ⟨fun p hp=>?_,List.pairwise_append.2 ⟨i2,by simp,fun p hp q hq=>?_⟩,fun p hp=>?_,fun p hp=>?_⟩
    · rcases List.mem_append.1 hp with hp|hp
      · have:=i1 p hp; omega
      · simp only [List.mem_singleton] at hp; subst hp; exact hla
    · simp only [List.mem_singleton] at hq; subst hq; exact i1 p hp
    · rcases List.mem_append.1 hp with hp|hp
      · exact i3 p hp
      · simp only [List.mem_singleton] at hp; subst hp; exact hw.last hx
    · rcases List.mem_append.1 hp with hp|hp
      · exact i4 p hp
      · simp only [List.mem_singleton] at hp; subst hp; exact hx
end Go.Step
namespace Go.Step
structure MvOK (G:Gr) (x:Lb) (m:Lb × Hp) (k:Nat) (c:Ct):Prop where
  ct:G.cs[k]?=some c
  hc:m.2.c=k
  fr:c.f=x.n
  to:c.t=m.1.n
  lv:leaveR G c m.2≤x.t
  ar:m.2.a=m.1.a
  dl:m.2.a≤G.q.dln
  ag:m.2.a=m.2.e+c.g
  en:m.2.e=m.2.b+G.dur.getD k 0
  ta:x.a≤m.2.b
  tf:m.1.f≤m.2.b
  be:m.2.b<m.2.e
  gap:∃ p∈G.gaps.getD k [],p.1≤m.2.b∧m.2.e≤p.2
  rm:m.1.n≠G.q.dst→m.1.a<m.1.t
theorem mv_ok {G:Gr} (hg:GOK G) {x:Lb} {m:Lb × Hp} (h:m∈mvs G x):∃ k c,MvOK G x m k c:=by
  obtain ⟨k,c,r,hc,hf,hr,hh,he,h1,h2,h3⟩:=mem_mvs h
  obtain ⟨e1,e2,e3,e4,e5,e6,e7⟩:=hopR_ok hg hc hh
  have hgap:∃ p∈G.gaps.getD k [],p.1≤m.2.b∧m.2.e≤p.2:=by
    have hh':=hh
    unfold hopR at hh';rw [Option.map_eq_some_iff] at hh'
    obtain ⟨b,hb,eb⟩:=hh'
    obtain ⟨p,hp,q1,q2⟩:=hopB_ok hb
    rw [← eb]
    dsimp only
    exact ⟨p,hp,by omega,by omega⟩
  obtain ⟨⟨mn,mf,mt,ma⟩,hp⟩:=m
  simp only [Lb.mk.injEq] at he
  obtain ⟨rfl,rfl,rfl,rfl⟩:=he
  dsimp only at hh h1 h2 h3 e1 e2 e3 e4 e5 e6 e7 hgap
  exact ⟨k,c,hc,e1,hf,rfl,h1,rfl,h2,e6,e7,by dsimp only; omega,by dsimp only; omega,e4,hgap,h3⟩
end Go.Step
namespace Go.Step
structure Load (G G':Gr):Prop where
  q:G'.q=G.q
  cs:G'.cs=G.cs
  dur:G'.dur=G.dur
  gaps:∀ i,∀ p'∈G'.gaps.getD i [],∃ p∈G.gaps.getD i [],p.1≤p'.1∧p'.2≤p.2
  rooms:∀ n:Nat,∀ p'∈G'.rooms.getD n [],∃ p∈G.rooms.getD n [],p.1≤p'.1∧p'.2≤p.2
theorem hopB_in {fr d:Int} (hd:0≤d):∀ {L:List (Int × Int)},L.Pairwise (fun x y=>x.2<y.1)→∀ {p:Int × Int},p∈L→max p.1 fr+d≤p.2→∃ b,hopB fr d L=some b∧b≤max p.1 fr
  | [],_,p,h,_=>by cases h
  | x::l,hP,p,hp,hle=>by
    obtain ⟨h1,h2⟩:=List.pairwise_cons.1 hP
    unfold hopB
    by_cases c:max x.1 fr+d≤x.2
    · rw [if_pos c]
      refine ⟨_,rfl,?_⟩
      rcases List.mem_cons.1 hp with rfl|hp
      · omega
      · have:=h1 p hp; omega
    · rw [if_neg c]
      rcases List.mem_cons.1 hp with rfl|hp
      · exact absurd hle c
      · exact hopB_in hd h2 hp hle
theorem hopR_load {G G':Gr} (hg:GOK G) (ha:∀ i,(G.gaps.getD i []).Pairwise (fun x y=>x.2<y.1)) (hL:Load G G') {i:Nat} {c:Ct} {fr fr':Int} (hf:fr≤fr') {h':Hp} (hh:hopR G' i c fr'=some h'):∃ h,hopR G i c fr=some h∧h.a≤h'.a∧h.e≤h'.e:=by
  have hd:0≤G.dur.getD i 0:=by
    rw [List.getD_eq_getElem?_getD]
    cases e:G.dur[i]? with
    | none=>simp
    | some d=>have:=hg.dur d (List.mem_of_getElem? e); simp; omega
  unfold hopR at hh ⊢;rw [Option.map_eq_some_iff] at hh
  obtain ⟨b',h1,rfl⟩:=hh
  rw [hL.dur] at h1
  obtain ⟨p',hp',rfl,hle⟩:=hopB_ok h1
  obtain ⟨p,hp,c1,c2⟩:=hL.gaps i p' hp'
  obtain ⟨b,e1,e2⟩:=hopB_in (fr:=fr) hd (ha i) hp (by omega)
  rw [e1];refine ⟨_,rfl,?_,?_⟩
  · dsimp only; rw [hL.dur]; omega
  · dsimp only; rw [hL.dur]; omega
theorem roomsR_load {G G':Gr} (hL:Load G G') (n:Int) {p':Int × Int} (h:p'∈roomsR G' n):∃ p∈roomsR G n,p.1≤p'.1∧p'.2≤p.2:=by
  unfold roomsR at h ⊢;rw [hL.q] at h
  split
  · rename_i c
    rw [if_pos c] at h
    exact ⟨p',h,by omega,by omega⟩
  · rename_i c
    rw [if_neg c] at h;exact hL.rooms _ p' h
def Around (y x:Lb):Prop:=y.n=x.n∧y.f≤x.f∧x.t≤y.t∧y.a≤x.a
theorem mvs_load {G G':Gr} (hg:GOK G) (ha:∀ i,(G.gaps.getD i []).Pairwise (fun x y=>x.2<y.1)) (hL:Load G G') {x y:Lb} (hy:Around y x) {m':Lb × Hp} (hm:m'∈mvs G' x):∃ m∈mvs G y,Around m.1 m'.1:=by
  obtain ⟨y1,y2,y3,y4⟩:=hy
  obtain ⟨k,c,r',hc,hf,hr,hh,he,h1,h2,h3⟩:=mem_mvs hm
  obtain ⟨r,hr2,r1,r2⟩:=roomsR_load hL c.t hr
  obtain ⟨h,e1,e2,e3⟩:=hopR_load hg ha hL (show max y.a r.1≤max x.a r'.1 by omega) hh
  have hl:leaveR G c h≤leaveR G' c m'.2:=by unfold leaveR; rw [hL.q]; split <;> omega
  rw [hL.cs] at hc;rw [hL.q] at h2 h3
  refine ⟨_,mvs_of hc (by rw [hf,y1]) hr2 e1 (by omega) (by omega) (fun q=>by have:=h3 q; omega),?_⟩
  rw [he];exact ⟨rfl,r1,r2,e2⟩
theorem cov_load {G G':Gr} (hg:GOK G) (ha:∀ i,(G.gaps.getD i []).Pairwise (fun x y=>x.2<y.1)) (hE:Load G G') {L:List Lb} (hL:LabR G L) {x:Lb} (h:RchL G' x):∃ y∈L,Around y x:=by
  induction h with
  | beg h =>
    unfold begs at h;rw [List.mem_map] at h
    obtain ⟨p',hp',rfl⟩:=h
    rw [List.mem_filter,Bool.and_eq_true,decide_eq_true_eq,decide_eq_true_eq] at hp'
    obtain ⟨hm,c1,c2⟩:=hp'
    rw [hE.q] at hm c1 c2
    obtain ⟨p,hp,d1,d2⟩:=hE.rooms _ p' hm
    have hb:(⟨G.q.src,p.1,p.2,G.q.rdy⟩:Lb)∈begs G:=by
      unfold begs;rw [List.mem_map]
      exact ⟨p,List.mem_filter.2 ⟨hp,by rw [Bool.and_eq_true,decide_eq_true_eq,decide_eq_true_eq]; omega⟩,rfl⟩
    obtain ⟨y,hy,hs,hle⟩:=hL.beg _ hb
    have ht:=fine_to hg (beg_fine hg hb) (rch_fine hg (hL.rch y hy)) hs
    obtain ⟨e1,e2⟩:=sameL_iff.1 hs
    dsimp only at e1 e2 hle ht
    refine ⟨y,hy,?_,?_,?_,?_⟩
    · dsimp only; rw [e1,hE.q]
    · dsimp only; omega
    · dsimp only; omega
    · dsimp only; rw [hE.q]; exact hle
  | mv hx hm hn ih =>
    obtain ⟨y,hy,hay⟩:=ih
    obtain ⟨m,hm2,a1,a2,a3,a4⟩:=mvs_load hg ha hE hay hm
    rw [hE.q] at hn
    have hn2:m.1.n≠G.q.dst:=by rw [a1]; exact hn
    obtain ⟨z,hz,hs,hle⟩:=hL.clo y hy m hm2 hn2
    have ht:=fine_to hg (mvs_fine hg hm2 hn2) (rch_fine hg (hL.rch z hz)) hs
    obtain ⟨e1,e2⟩:=sameL_iff.1 hs
    exact ⟨z,hz,by rw [e1,a1],by omega,by omega,by omega⟩
theorem arr_load {G G':Gr} (hg:GOK G) (ha:∀ i,(G.gaps.getD i []).Pairwise (fun x y=>x.2<y.1)) (hE:Load G G') {L L':List Lb} (hL:LabR G L) (hL':LabR G' L') {a':Int} (h:arrR G' L'=some a'):∃ a,arrR G L=some a∧a≤a':=by
  obtain ⟨x,hx,m,hm,hn,rfl⟩:=arr_some h
  obtain ⟨y,hy,hay⟩:=cov_load hg ha hE hL (hL'.rch x hx)
  obtain ⟨m2,h1,f1,f2,f3,f4⟩:=mvs_load hg ha hE hay hm
  obtain ⟨a,e1,e2⟩:=arr_le hy h1 (by rw [f1,← hE.q]; exact hn)
  exact ⟨a,e1,by omega⟩
end Go.Step
namespace Go.Step
theorem norm_apart {l:List (Int × Int)} (h:NormI l) {lo hi:Int} (hb:∀ z∈l,lo≤z.1∧z.2≤hi):Apart lo hi l:=⟨fun s hs=>⟨(hb s hs).1,h.1 s hs,(hb s hs).2⟩,h.2⟩
theorem gap_in {cs:List Ct} {bs bs':List Bk} (hb:firstE (bkE cs bs) bs.length=0) (hb':firstE (bkE cs bs') bs'.length=0) {i:Nat} {c:Ct} (hc:cs[i]?=some c) (hsub:∀ t,bookedB bs i t=true→bookedB bs' i t=true):∀ p'∈freeC cs bs' i,∃ p∈freeC cs bs i,p.1≤p'.1∧p'.2≤p.2:=fun p' hp=>by
  obtain ⟨n1,n2,n3⟩:=freeC_ok hb hc
  obtain ⟨m1,m2,m3⟩:=freeC_ok hb' hc
  refine cov_one (norm_apart n1 n2) (m1.1 p' hp) (fun t h1 h2=>?_)
  have hm:memI (freeC cs bs' i) t=true:=memI_iff.2 ⟨p',hp,h1,h2⟩
  rw [m3,Bool.and_eq_true] at hm
  have hk:memI (freeC cs bs i) t=true:=by
    rw [n3,Bool.and_eq_true];refine ⟨hm.1,?_⟩
    cases hx:bookedB bs i t with
    | false=>rfl
    | true=>have:=hsub t hx; rw [this] at hm; simp at hm
  exact memI_iff.1 hk
theorem room_in {hs hs':List Hd} {n Q s:Int} {nq:Nat} (hok:∀ h∈hs,okHd nq h) (hok':∀ h∈hs',okHd nq h) (hl:hs.length≤600) (hl':hs'.length≤600) (hsub:∀ t,stored hs n t≤stored hs' n t):∀ p'∈freeP Q s (lvH hs' n),∃ p∈freeP Q s (lvH hs n),p.1≤p'.1∧p'.2≤p.2:=fun p' hp=>by
  obtain ⟨a1,a2⟩:=free_holds (n:=n) (Q:=Q) (s:=s) hok hl
  obtain ⟨b1,b2⟩:=free_holds (n:=n) (Q:=Q) (s:=s) hok' hl'
  have ho:=b1.ok p' hp
  refine cov_one a1 ho.2.1 (fun t h1 h2=>?_)
  have hc:Cov (freeP Q s (lvH hs' n)) t:=⟨p',hp,h1,h2⟩
  rw [b2 t (by omega) (by omega)] at hc
  rw [a2 t (by omega) (by omega)]
  have:=hsub t
  omega
theorem load_of {qs:List Int} {cs:List Ct} {bs bs':List Bk} {hs hs':List Hd} (h:chkT qs cs bs hs=0) (h':chkT qs cs bs' hs'=0) (q:Rq) (hb:∀ (i:Nat) t,bookedB bs i t=true→bookedB bs' i t=true) (hh:∀ (n:Nat) t,stored hs n t≤stored hs' n t):Load (grOf qs cs bs hs q) (grOf qs cs bs' hs' q):=by
  obtain ⟨hp,hb1,hh1⟩:=chkT_ok h
  obtain ⟨_,hb2,hh2⟩:=chkT_ok h'
  obtain ⟨l1,k1⟩:=chkH_ok hh1
  obtain ⟨l2,k2⟩:=chkH_ok hh2
  refine ⟨rfl,rfl,rfl,fun i p' hp'=>?_,fun n p' hp'=>?_⟩
  · by_cases hi:i<cs.length
    · rw [List.getD_eq_getElem?_getD,gaps_at qs cs bs' hs' q hi,Option.getD_some] at hp'
      rw [List.getD_eq_getElem?_getD,gaps_at qs cs bs hs q hi,Option.getD_some];exact gap_in (chkB_ok hb1).2 (chkB_ok hb2).2 (List.getElem?_eq_getElem hi) (hb i) p' hp'
    · have:(grOf qs cs bs' hs' q).gaps[i]?=none:=by
        rw [List.getElem?_eq_none_iff]; simp [grOf]; omega
      rw [List.getD_eq_getElem?_getD,this] at hp'
      cases hp'
  · by_cases hn:n<qs.length
    · have e:∀ hs:List Hd,(grOf qs cs bs hs q).rooms.getD n []=freeP (qs.getD n 0) q.size (lvH hs n):=fun hs=>by
        rw [List.getD_eq_getElem?_getD]
        show (((List.range qs.length).map (fun n:Nat=>freeP (qs.getD n 0) q.size (lvH hs n)))[n]?).getD []=_
        rw [List.getElem?_map,List.getElem?_range hn]; rfl
      have e':(grOf qs cs bs' hs' q).rooms.getD n []=freeP (qs.getD n 0) q.size (lvH hs' n):=e hs'
      rw [e'] at hp';rw [e]
      exact room_in k1 k2 (by omega) (by omega) (hh n) p' hp'
    · have:(grOf qs cs bs' hs' q).rooms[n]?=none:=by
        rw [List.getElem?_eq_none_iff]; simp [grOf]; omega
      rw [List.getD_eq_getElem?_getD,this] at hp'
      cases hp'
end Go.Step
namespace Go.Step
open Go.Flow (Flw fval netB netB_eq inCap sumTo sumTo_zero sumTo_one okArc_iff)
def shipsF:List EA→List Int→List Sh
  | x::L,y::fl=>(if 0≤x.c∧0<y then [⟨x.c,x.t,y⟩] else []) ++ shipsF L fl
  | _,_=>[]
section
variable {qs:List Int} {cs:List Ct} {bs:List Bk} {hs:List Hd} {d:Dm}
def bq (d:Dm) (P:Int→Int→Bool) (v:Nat):Bool:=P ((v:Int) / wd d) (d.r+(v:Int) % wd d)
end
end Go.Step
namespace Go.Flow
def plFrom:Nat→List Arc→List Lk
  | _,[]=>[]
  | i,a::l=>⟨i,a.f.toNat,a.t.toNat⟩::plFrom (i+1) l
def plinks (l:List Arc):List Lk:=plFrom 0 l
theorem plFrom_get:∀ (l:List Arc) (i j:Nat),(plFrom i l)[j]?=(l[j]?).map (fun a=>(⟨i+j,a.f.toNat,a.t.toNat⟩:Lk))
  | [],i,j=>by simp [plFrom]
  | b::l,i,j=>by
    cases j with
    | zero=>simp [plFrom]
    | succ j =>
      simp only [plFrom,List.getElem?_cons_succ]
      rw [plFrom_get l (i+1) j,show i+1+j=i+(j+1) from by omega]
theorem plinks_get (l:List Arc) (j:Nat):(plinks l)[j]?=(l[j]?).map (fun a=>(⟨j,a.f.toNat,a.t.toNat⟩:Lk)):=by
  unfold plinks; rw [plFrom_get]; simp
theorem plinks_iff {l:List Arc} {x:Lk}:x∈plinks l↔∃ j a,l[j]?=some a∧x=⟨j,a.f.toNat,a.t.toNat⟩:=by
  rw [List.mem_iff_getElem?]
  constructor
  · rintro ⟨j,hj⟩
    rw [plinks_get,Option.map_eq_some_iff] at hj
    obtain ⟨a,ha,rfl⟩:=hj
    exact ⟨j,a,ha,rfl⟩
  · rintro ⟨j,a,ha,rfl⟩
    exact ⟨j,by rw [plinks_get,ha]; rfl⟩
theorem pl_lt {n:Nat} {l:List Arc} (hok:∀ a∈l,okArc n a=true):∀ x∈plinks l,x.f<n∧x.t<n:=fun x hx=>by
  obtain ⟨j,a,ha,rfl⟩:=plinks_iff.1 hx
  have:=okArc_iff.1 (hok a (List.mem_of_getElem? ha))
  dsimp only; omega
theorem pl_k {l:List Arc} {x:Lk} (hx:x∈plinks l):x.k<l.length:=by
  obtain ⟨j,a,ha,rfl⟩:=plinks_iff.1 hx
  exact (List.getElem?_eq_some_iff.1 ha).1
def rmP (rest:List Int) (k:Nat):Int:=rest.getD k 0
def subP (room:Int) (rest:List Int) (x:Lk):List Int:=rest.set x.k (rest.getD x.k 0-room)
def subAll (room:Int) (rest:List Int) (p:List Lk):List Int:=p.foldl (subP room) rest
theorem subP_len (room:Int) (rest:List Int) (x:Lk):(subP room rest x).length=rest.length:=by simp [subP]
theorem subAll_len (room:Int):∀ (p:List Lk) (rest:List Int),(subAll room rest p).length=rest.length
  | [],rest=>rfl
  | x::p,rest=>by
    have:=subAll_len room p (subP room rest x)
    rw [subP_len] at this;exact this
theorem subP_ok {n:Nat} {l:List Arc} {fl:List Int} {x:Lk} {room:Int} (hok:∀ a∈l,okArc n a=true) (hl:l.length=fl.length) (hc:inCap l fl=true) (hx:x∈plinks l) (h0:0≤room) (hr:room≤rmP fl x.k) :
    inCap l (subP room fl x)=true∧(∀ v:Nat,fval v l (subP room fl x)=fval v l fl-((if x.f=v then room else 0)-(if x.t=v then room else 0)))∧∀ k,k≠x.k→rmP (subP room fl x) k=rmP fl k:=by
  obtain ⟨j,a,ha,rfl⟩:=plinks_iff.1 hx
  have hjl:j<l.length:=(List.getElem?_eq_some_iff.1 ha).1
  have hfj:fl[j]?=some (fl.getD j 0):=by simp [List.getD_eq_getElem?_getD,show j<fl.length by omega]
  have hin:=inCap_get l fl hc j a _ ha hfj
  obtain ⟨g1,g2,g3,g4,g5,g6,g7⟩:=okArc_iff.1 (hok a (List.mem_of_getElem? ha))
  unfold rmP at hr
  dsimp only at hr
  refine ⟨?_,?_,fun k hk=>?_⟩
  · unfold subP
    exact inCap_set l fl j a _ ha hc (by dsimp only; omega) (by dsimp only; omega)
  · intro v
    unfold subP
    dsimp only
    rw [fval_set v l fl j a _ ha hl]
    have e1:(a.f=(v:Int))↔(a.f.toNat=v):=by omega
    have e2:(a.t=(v:Int))↔(a.t.toNat=v):=by omega
    simp only [e1,e2]
    split <;> split <;> omega
  · unfold rmP subP
    exact getD_set' (Ne.symm hk)
theorem subAll_ok {n:Nat} {l:List Arc} {room:Int} (hok:∀ a∈l,okArc n a=true) (h0:0≤room) {E:Lk→Prop} (hE:∀ x,E x→x∈plinks l) {u w:Nat} {p:List Lk} (hp:Chn E u p w) :
    ∀ (fl:List Int),l.length=fl.length→inCap l fl=true→p.Pairwise (fun x y=>x.k≠y.k)→(∀ x∈p,room≤rmP fl x.k) →
    inCap l (subAll room fl p)=true∧∀ v:Nat,fval v l (subAll room fl p)=fval v l fl-((if u=v then room else 0)-(if w=v then room else 0)):=by
  induction hp with
  | nil=>intro fl _ hc _ _; exact ⟨hc,fun v=>by simp [subAll]⟩
  | @cons x u p w hf hx _ ih =>
    intro fl hl hc hpw hr
    rw [List.pairwise_cons] at hpw
    obtain ⟨s1,s2,s3⟩:=subP_ok hok hl hc (hE x hx) h0 (hr x (by simp))
    obtain ⟨r1,r2⟩:=ih (subP room fl x) (by rw [subP_len]; exact hl) s1 hpw.2 (fun y hy=>by rw [s3 y.k (Ne.symm (hpw.1 y hy))]; exact hr y (by simp [hy]))
    refine ⟨r1,fun v=>?_⟩
    have:=r2 v
    rw [s2 v] at this
    show fval v l (subAll room (subP room fl x) p)=_
    rw [this,hf]
    split <;> split <;> split <;> omega
abbrev pE (l:List Arc) (fl:List Int):Lk→Prop:=opn (plinks l) (rmP fl)
abbrev pP (l:List Arc) (fl:List Int) (D:List Int) (s:Nat):List Lk:=pathD (nxt (plinks l) (rmP fl) D) D s
abbrev pRoom (l:List Arc) (fl:List Int) (D:List Int) (s:Nat):Int:=leastR (rmP fl) (pP l fl D s)
abbrev pNext (l:List Arc) (fl:List Int) (D:List Int) (s:Nat):List Int:=subAll (pRoom l fl D s) fl (pP l fl D s)
section
variable {n s t:Nat} {l:List Arc}
theorem pP_arcs (hok:∀ a∈l,okArc n a=true) (hs:s<n) {fl D:List Int} (hD:IsDist n t (pE l fl) D) (h0:0≤D.getD s 0):(pP l fl D s).Pairwise (fun x y=>x.k≠y.k):=by
  obtain ⟨k,hk⟩:=Int.eq_ofNat_of_zero_le h0
  have hp:=path_sorted (pl_lt hok) hD k s hs hk
  have hc:=(path_chn (pl_lt hok) hD k s hs hk).all
  refine List.Pairwise.imp_of_mem (fun {x y} hx hy hxy e=>?_) hp
  obtain ⟨i,a,ha,rfl⟩:=plinks_iff.1 (hc x hx).1.1
  obtain ⟨j,b,hb,rfl⟩:=plinks_iff.1 (hc y hy).1.1
  dsimp only at e hxy
  subst e;rw [ha] at hb
  obtain rfl:=Option.some.inj hb
  omega
theorem pNext_ok (hok:∀ a∈l,okArc n a=true) (hs:s<n) (hst:s≠t) {fl D:List Int} (hf:Flw n l s t fl) (hD:IsDist n t (pE l fl) D) (h0:0≤D.getD s 0) :
    Flw n l s t (pNext l fl D s)∧0<pRoom l fl D s∧fval s l (pNext l fl D s)=fval s l fl-pRoom l fl D s:=by
  obtain ⟨k,hk⟩:=Int.eq_ofNat_of_zero_le h0
  have hch:=path_chn (pl_lt hok) hD k s hs hk
  have hpos:0<pRoom l fl D s:=leastR_pos _ _ _ (by omega) (fun x hx=>(hch.all x hx).1.2)
  obtain ⟨r1,r2⟩:=subAll_ok hok (Int.le_of_lt hpos) (E:=fun x=>pE l fl x∧D.getD x.t 0=D.getD x.f 0-1∧D.getD x.f 0≤k) (fun x hx=>hx.1.1) hch fl hf.len hf.cap (pP_arcs hok hs hD h0) (fun x hx=>(leastR_le _ _ _).2 x hx)
  refine ⟨⟨by rw [subAll_len]; exact hf.len,r1,fun v hv h1 h2=>?_⟩,hpos,?_⟩
  · rw [r2 v,if_neg (Ne.symm h1),if_neg (Ne.symm h2),hf.bal v hv h1 h2]; rfl
  · rw [r2 s,if_pos rfl,if_neg (Ne.symm hst)]; omega
end
inductive RunP (n:Nat) (l:List Arc) (s t:Nat):List Int→List (List Lk × Int)→List Int→Prop
  | done {fl D:List Int}:IsDist n t (pE l fl) D→D.getD s 0<0→RunP n l s t fl [] fl
  | step {fl D r:List Int} {ps:List (List Lk × Int)}:IsDist n t (pE l fl) D→0≤D.getD s 0→RunP n l s t (pNext l fl D s) ps r→RunP n l s t fl ((pP l fl D s,pRoom l fl D s)::ps) r
theorem RunP.uniq {n s t:Nat} {l:List Arc} (hok:∀ a∈l,okArc n a=true) {fl F G:List Int} {ps qs:List (List Lk × Int)} (h1:RunP n l s t fl ps F) (h2:RunP n l s t fl qs G):ps=qs∧F=G:=by
  have hE:∀ fl x,pE l fl x→x.f<n∧x.t<n:=fun fl x hx=>pl_lt hok x hx.1
  induction h1 generalizing G qs with
  | done hD hn =>
    cases h2 with
    | done=>exact ⟨rfl,rfl⟩
    | step hD2 h0 _=>rw [hD.uniq (hE _) hD2] at hn; omega
  | step hD h0 _ ih =>
    cases h2 with
    | done hD2 hn=>rw [hD.uniq (hE _) hD2] at h0; omega
    | step hD2 _ hr =>
      have e:=hD.uniq (hE _) hD2
      subst e
      obtain ⟨e1,e2⟩:=ih hr
      exact ⟨by rw [e1],e2⟩
section
variable {n s t:Nat} {l:List Arc}
end
/-! ### a greater capacity -/
/-! ### arcs turned round,arcs in the opposite order -/
def turnA (a:Arc):Arc:=⟨a.t,a.f,a.c⟩
theorem fval_turn (v:Int):∀ (l:List Arc) (fl:List Int),fval v (l.map turnA) fl = - fval v l fl
  | [],_=>by simp [fval]
  | _::_,[]=>by simp [fval]
  | a::l,x::fl=>by
    simp only [List.map_cons,fval,fval_turn v l fl,turnA]
    split <;> split <;> omega
theorem inCap_turn:∀ (l:List Arc) (fl:List Int),inCap (l.map turnA) fl=inCap l fl
  | [],_=>by simp [inCap]
  | _::_,[]=>by simp [inCap]
  | a::l,x::fl=>by simp only [List.map_cons,inCap,inCap_turn l fl,turnA]
theorem netB_all:∀ (l:List Arc) (fl:List Int),netB (fun _=>true) l fl=0
  | [],_=>by simp [netB]
  | _::_,[]=>by simp [netB]
  | a::l,x::fl=>by simp only [netB,if_true]; rw [netB_all l fl]; omega
theorem sumTo_two {g:Nat→Int} {j k:Nat} (hjk:j≠k):∀ n,j<n→k<n→(∀ v,v<n→v≠j→v≠k→g v=0)→sumTo g n=g j+g k
  | 0,h,_,_=>by omega
  | n+1,h,h2,e=>by
    simp only [sumTo]
    by_cases e1:k=n
    · rw [sumTo_one (k:=j) n (by omega) (fun v hv hne=>e v (by omega) hne (by omega)),e1]
    · by_cases e2:j=n
      · rw [sumTo_one (k:=k) n (by omega) (fun v hv hne=>e v (by omega) (by omega) hne),e2]; omega
      · rw [sumTo_two hjk n (by omega) (by omega) (fun v hv g1 g2=>e v (by omega) g1 g2),e n (by omega) (by omega) (by omega)]; omega
theorem Flw.ends {n s t:Nat} {l:List Arc} {fl:List Int} (hok:∀ a∈l,okArc n a=true) (hs:s<n) (ht:t<n) (hst:s≠t) (hf:Flw n l s t fl):fval t l fl = - fval s l fl:=by
  have h:=netB_eq (n:=n) (fun _=>true) l fl hok
  rw [netB_all] at h
  rw [sumTo_two hst n hs ht (fun v hv g1 g2=>by simp only [if_true]; exact hf.bal v hv g1 g2)] at h
  simp only [if_true] at h;omega
theorem Flw.turn {n s t:Nat} {l:List Arc} {fl:List Int} (hf:Flw n l s t fl):Flw n (l.map turnA) t s fl:=
  ⟨by simp [hf.len],by rw [inCap_turn]; exact hf.cap,fun v hv g1 g2=>by rw [fval_turn,hf.bal v hv g2 g1]; rfl⟩
/-! ### differences of flows -/
end Go.Flow
namespace Go.Step
open Go.Flow (Flw fval inCap okArc okArc_iff)
section
variable {qs:List Int} {cs:List Ct} {bs:List Bk} {hs:List Hd} {d:Dm}
end
end Go.Step
namespace Go.Step
def singI (d:Dm) (n:Int) (side:List Int):Iv:=(side.filter (fun v=>decide (v / wd d=n))).map (fun v=>(d.r+v % wd d,d.r+v % wd d+1))
def sideI (d:Dm) (side:List Int) (n:Int):Iv:=insAll [] (singI d n side)
def sidesC (d:Dm) (nq:Nat) (side:List Int):Cu:=(List.range nq).map (fun n:Nat=>sideI d side n)
section
variable {qs:List Int} {cs:List Ct} {bs:List Bk} {hs:List Hd} {d:Dm}
end
end Go.Step
namespace Go.Step
open Go.Flow
variable {qs:List Int} {cs:List Ct} {bs:List Bk} {hs:List Hd} {d:Dm}
end Go.Step
namespace Go.Step
open Go.Flow (Flw fval okArc okEnds_iff)
variable {qs:List Int} {cs:List Ct} {bs:List Bk} {hs:List Hd} {d:Dm}
end Go.Step
namespace Go.Flow
def bget (B:List Bool) (v:Nat):Bool:=B.getD v false
theorem bget_set {B:List Bool} {i j:Nat} {x:Bool} (hi:i<B.length):bget (B.set i x) j=if i=j then x else bget B j:=by
  unfold bget;rw [List.getD_eq_getElem?_getD,List.getD_eq_getElem?_getD,List.getElem?_set]
  split
  · rename_i h; subst h; simp [hi]
  · rfl
theorem bget_rep (n v:Nat):bget (List.replicate n false) v=false:=by
  unfold bget;rw [List.getD_eq_getElem?_getD,List.getElem?_replicate]
  split <;> rfl
structure RInv (n s:Nat) (E:Lk→Prop) (B:List Bool) (q:List Nat):Prop where
  len:B.length=n
  src:bget B s=true
  snd:∀ v,v<n→bget B v=true→Rch E s v
  qn:∀ v∈q,v<n∧bget B v=true
  cl:∀ u,u<n→bget B u=true→u∉q→∀ x,E x→x.f=u→bget B x.t=true
structure RVInv (n s:Nat) (E:Lk→Prop) (B:List Bool) (v:Nat) (q:List Nat) (pre:List Lk):Prop where
  len:B.length=n
  src:bget B s=true
  snd:∀ v,v<n→bget B v=true→Rch E s v
  vn:v<n
  v0:bget B v=true
  qn:∀ v∈q,v<n∧bget B v=true
  cl:∀ u,u<n→bget B u=true→u∉q→u≠v→∀ x,E x→x.f=u→bget B x.t=true
  pre0:∀ x∈pre,bget B x.t=true
section
variable {n s:Nat} {E:Lk→Prop} {B:List Bool}
theorem RInv.start (hs:s<n):RInv n s E ((List.replicate n false).set s true) [s]:=by
  have hg:∀ v,bget ((List.replicate n false).set s true) v=true→v=s:=fun v h=>by
    rw [bget_set (by simpa using hs),bget_rep] at h
    split at h
    · rename_i e; exact e.symm
    · simp at h
  refine ⟨by simp,by rw [bget_set (by simpa using hs)]; simp,fun v _ h=>by rw [hg v h]; exact .refl,fun v hv=>?_,fun u _ h hq=>?_⟩
  · simp at hv; subst hv
    exact ⟨hs,by rw [bget_set (by simpa using hs)]; simp⟩
  · exact absurd (by rw [hg u h]; simp) hq
theorem RInv.take {v:Nat} {q:List Nat} (h:RInv n s E B (v::q)):RVInv n s E B v q []:=
  ⟨h.len,h.src,h.snd,(h.qn v (by simp)).1,(h.qn v (by simp)).2,fun u hu=>h.qn u (by simp [hu]),fun u hu hb hq hne=>h.cl u hu hb (by simp [hq,hne]),by simp⟩
theorem RVInv.push {v:Nat} {q:List Nat} {pre:List Lk} {x:Lk} (h:RVInv n s E B v q pre) (hE:E x) (hxt:x.t<n) (hxf:x.f=v):RVInv n s E (B.set x.t true) v (q ++ [x.t]) (pre ++ [x]):=by
  have hl:x.t<B.length:=by rw [h.len]; exact hxt
  have hg:∀ u,bget B u=true→bget (B.set x.t true) u=true:=fun u hu=>by rw [bget_set hl]; split <;> simp [hu]
  refine ⟨by simp [h.len],hg _ h.src,fun u hu hb=>?_,h.vn,hg _ h.v0,fun u hu=>?_,fun u hu hb hq hne y hy hyf=>?_,fun y hy=>?_⟩
  · rw [bget_set hl] at hb
    split at hb
    · rename_i e; rw [← e]
      exact .step (by rw [hxf]; exact h.snd v h.vn h.v0) hE
    · exact h.snd u hu hb
  · rcases List.mem_append.1 hu with hu|hu
    · exact ⟨(h.qn u hu).1,hg _ (h.qn u hu).2⟩
    · rw [List.mem_singleton.1 hu]
      exact ⟨hxt,by rw [bget_set hl]; simp⟩
  · simp only [List.mem_append,List.mem_singleton,not_or] at hq
    rw [bget_set hl] at hb
    split at hb
    · rename_i e; exact absurd e.symm hq.2
    · exact hg _ (h.cl u hu hb hq.1 hne y hy hyf)
  · rcases List.mem_append.1 hy with hy|hy
    · exact hg _ (h.pre0 y hy)
    · rw [List.mem_singleton.1 hy,bget_set hl]; simp
theorem RVInv.done {v:Nat} {q:List Nat} {pre:List Lk} (h:RVInv n s E B v q pre) (hall:∀ x,E x→x.f=v→x∈pre):RInv n s E B q:=
  ⟨h.len,h.src,h.snd,h.qn,fun u hu hb hq x hx hxf=>by
    by_cases e:u=v
    · subst e; exact h.pre0 x (hall x hx hxf)
    · exact h.cl u hu hb hq e x hx hxf⟩
end
def sideOf (B:List Bool) (k:Nat):List Int:=((List.range k).filter (fun v=>bget B v)).map (fun (v:Nat)=>(v:Int))
theorem sideOf_len (B:List Bool) (k:Nat):(sideOf B k).length≤k:=by
  unfold sideOf;rw [List.length_map]
  have:=List.length_filter_le (fun v=>bget B v) (List.range k)
  simpa using this
theorem mem_sideOf {B:List Bool} {k:Nat} {x:Int}:x∈sideOf B k↔∃ v:Nat,x=v∧v<k∧bget B v=true:=by
  unfold sideOf;rw [List.mem_map]
  constructor
  · rintro ⟨v,hv,rfl⟩
    rw [List.mem_filter] at hv
    exact ⟨v,rfl,by simpa using hv.1,hv.2⟩
  · rintro ⟨v,rfl,h1,h2⟩
    exact ⟨v,by rw [List.mem_filter]; exact ⟨by simpa using h1,h2⟩,rfl⟩
theorem capOf_congr {n:Nat} {p q:Nat→Bool} (h:∀ v,v<n→p v=q v):∀ l:List Arc,(∀ a∈l,okArc n a=true)→capOf p l=capOf q l
  | [],_=>rfl
  | a::l,hok=>by
    obtain ⟨g1,g2,g3,g4,_⟩:=okArc_iff.1 (hok a (by simp))
    simp only [capOf]
    rw [capOf_congr h l (fun b hb=>hok b (by simp [hb])),h a.f.toNat (by omega),h a.t.toNat (by omega)]
def maxErr (n:Int) (l:List Arc) (s t:Int):Int:=if chk n l≠0 then chk n l else if okEnds n s t=true then 0 else 2
def MaxOK (n:Int) (l:List Arc) (s t:Int) (F:List Int) (m e:Int):Prop:=
  (maxErr n l s t≠0∧e=maxErr n l s t∧F=[]∧m=0) ∨
  (maxErr n l s t=0∧e=0∧RunR n.toNat l s.toNat t.toNat (List.replicate l.length 0) F∧m=fval s l F)
def CutOK (n:Int) (l:List Arc) (s t:Int) (side:List Int) (c e:Int):Prop:=
  (maxErr n l s t≠0∧e=maxErr n l s t∧side=[]∧c=0) ∨
  (maxErr n l s t=0∧e=0∧∃ F B,RunR n.toNat l s.toNat t.toNat (List.replicate l.length 0) F∧IsReach n.toNat (rE l F) s.toNat (bget B)∧side=sideOf B n.toNat∧c=capOf (bget B) l)
structure Good (n:Int) (l:List Arc) (s t:Int) (n' s' t':Nat):Prop where
  en:n=n'
  es:s=s'
  et:t=t'
  sn:s'<n'
  tn:t'<n'
  ne:s'≠t'
  n2:n'≤2000
  l2:l.length≤20000
  ok:∀ a∈l,okArc n' a=true
  chk:Flow.chk n l=0
  ends:okEnds n s t=true
theorem maxErr_good {n s t:Int} {l:List Arc} (h:maxErr n l s t=0):∃ n' s' t':Nat,Good n l s t n' s' t':=by
  unfold maxErr at h
  split at h
  · rename_i h1; exact absurd h h1
  · rename_i h1
    split at h
    · rename_i h2
      have hc:Flow.chk n l=0:=by omega
      obtain ⟨a1,a2,a3,a4⟩:=chk_ok hc
      obtain ⟨b1,b2,b3,b4,b5⟩:=okEnds_iff.1 h2
      refine ⟨n.toNat,s.toNat,t.toNat,⟨by omega,by omega,by omega,by omega,by omega,by omega,by omega,a3,?_,hc,h2⟩⟩
      have e:((n.toNat:Nat):Int)=n:=by omega
      rw [e]; exact a4
    · simp at h
theorem MaxOK.uniq {n s t:Int} {l:List Arc} {F G:List Int} {m k e f:Int} (h1:MaxOK n l s t F m e) (h2:MaxOK n l s t G k f):F=G∧m=k∧e=f:=by
  rcases h1 with ⟨a1,a2,a3,a4⟩|⟨a1,a2,a3,a4⟩ <;> rcases h2 with ⟨b1,b2,b3,b4⟩|⟨b1,b2,b3,b4⟩
  · exact ⟨by rw [a3,b3],by rw [a4,b4],by rw [a2,b2]⟩
  · exact absurd b1 a1
  · exact absurd a1 b1
  · obtain ⟨n',s',t',g⟩:=maxErr_good a1
    obtain ⟨rfl,rfl,rfl⟩:=And.intro g.en (And.intro g.es g.et)
    simp only [Int.toNat_natCast] at a3 b3
    have e:=a3.uniq g.ok b3
    subst e
    exact ⟨rfl,by rw [a4,b4],by rw [a2,b2]⟩
theorem sideOf_congr {B C:List Bool} {n:Nat} (h:∀ v,v<n→bget B v=bget C v):sideOf B n=sideOf C n:=by
  unfold sideOf
  congr 1
  apply List.filter_congr
  intro v hv
  exact h v (by simpa using hv)
theorem reach_uniq {n s:Nat} {E:Lk→Prop} {p q:Nat→Bool} (h1:IsReach n E s p) (h2:IsReach n E s q):∀ v,v<n→p v=q v:=fun v hv=>by
  have a:=h1 v hv
  have b:=h2 v hv
  cases e1:p v <;> cases e2:q v <;> simp_all
theorem CutOK.uniq {n s t:Int} {l:List Arc} {F G:List Int} {m k e f:Int} (h1:CutOK n l s t F m e) (h2:CutOK n l s t G k f):F=G∧m=k∧e=f:=by
  rcases h1 with ⟨a1,a2,a3,a4⟩|⟨a1,a2,F1,B1,r1,i1,d1,c1⟩ <;> rcases h2 with ⟨b1,b2,b3,b4⟩|⟨b1,b2,F2,B2,r2,i2,d2,c2⟩
  · exact ⟨by rw [a3,b3],by rw [a4,b4],by rw [a2,b2]⟩
  · exact absurd b1 a1
  · exact absurd a1 b1
  · obtain ⟨n',s',t',g⟩:=maxErr_good a1
    obtain ⟨rfl,rfl,rfl⟩:=And.intro g.en (And.intro g.es g.et)
    simp only [Int.toNat_natCast] at *
    have e:=r1.uniq g.ok r2
    subst e
    have hb:=reach_uniq i1 i2
    exact ⟨by rw [d1,d2]; exact sideOf_congr hb,by rw [c1,c2]; exact capOf_congr hb l g.ok,by rw [a2,b2]⟩
end Go.Flow
namespace Go.Flow
end Go.Flow
namespace Go.Step
open Go.Flow (Flw fval okArc okArc_iff okEnds_iff capOf MaxOK maxErr RunR run_cut exists_reach)
section
variable {qs:List Int} {cs:List Ct} {bs:List Bk} {hs:List Hd} {d:Dm}
def MaxN (qs:List Int) (cs:List Ct) (bs:List Bk) (hs:List Hd) (d:Dm) (F:List Int) (m e:Int):Prop:=MaxOK (vsN qs d) (arcsG qs cs bs hs d) (vtx d d.s d.r) (vtx d d.d d.e) F m e
end
end Go.Step
namespace Go.Step
open Go.Flow (sideChk capacitySpec)
variable {qs:List Int} {cs:List Ct} {bs:List Bk} {hs:List Hd} {d:Dm}
end Go.Step
namespace Go.Step
section
variable {qs:List Int} {cs:List Ct} {bs:List Bk} {hs:List Hd} {d:Dm}
end
end Go.Step
namespace Go.Flow
structure LInv (n t:Nat) (E:Lk→Prop) (D:List Int) (d:Nat) (pre:List Lk):Prop where
  len:D.length=n
  low:∀ v,v<n → -1≤D.getD v 0
  hi:∀ v,v<n→D.getD v 0≤(d:Int)+1
  at0:D.getD t 0=0
  zero:∀ v,v<n→D.getD v 0=0→v=t
  step:∀ v,v<n→0<D.getD v 0→∃ x,E x∧x.f=v∧D.getD x.t 0=D.getD v 0-1
  old:∀ x,E x→0≤D.getD x.t 0→D.getD x.t 0<(d:Int)→0≤D.getD x.f 0∧D.getD x.f 0≤D.getD x.t 0+1
  pre0:∀ x∈pre,E x→D.getD x.t 0=(d:Int)→0≤D.getD x.f 0
section
variable {n t:Nat} {E:Lk→Prop} {D:List Int} {d:Nat}
theorem LInv.start (ht:t<n):LInv n t E ((List.replicate n (-1)).set t 0) 0 []∧∀ v,v<n→((List.replicate n (-1:Int)).set t 0).getD v 0≤((0:Nat):Int):=by
  have hg:∀ v,v<n→((List.replicate n (-1:Int)).set t 0).getD v 0=if t=v then 0 else -1:=fun v hv=>by
    rw [getD_set (by simpa using ht)]
    split
    · rfl
    · exact getD_rep hv _
  have hlt:∀ v,v<n→((List.replicate n (-1:Int)).set t 0).getD v 0≤0:=fun v hv=>by rw [hg v hv]; split <;> omega
  refine ⟨⟨by simp,fun v hv=>by rw [hg v hv]; split <;> omega,fun v hv=>by have:=hlt v hv; omega,by rw [hg t ht]; simp,fun v hv h=>?_,fun v hv h=>by have:=hlt v hv; omega,fun x _ h1 h2=>by omega,by simp⟩,hlt⟩
  rw [hg v hv] at h
  split at h
  · rename_i e; exact e.symm
  · omega
theorem LInv.skip {pre:List Lk} {x:Lk} (h:LInv n t E D d pre) (hx:E x→D.getD x.t 0=(d:Int)→0≤D.getD x.f 0):LInv n t E D d (pre ++ [x]):=
  ⟨h.len,h.low,h.hi,h.at0,h.zero,h.step,h.old,fun y hy=>by
    rcases List.mem_append.1 hy with hy|hy
    · exact h.pre0 y hy
    · rw [List.mem_singleton.1 hy]; exact hx⟩
theorem LInv.mark {pre:List Lk} {x:Lk} (h:LInv n t E D d pre) (hE:E x) (hxf:x.f<n) (hd:D.getD x.t 0=(d:Int)) (hneg:D.getD x.f 0 = -1):LInv n t E (D.set x.f ((d:Int)+1)) d (pre ++ [x]):=by
  have hl:x.f<D.length:=by rw [h.len]; exact hxf
  have hg:∀ v,(D.set x.f ((d:Int)+1)).getD v 0=if x.f=v then (d:Int)+1 else D.getD v 0:=fun v=>getD_set hl
  have hne:x.f≠x.t:=fun e=>by rw [e] at hneg; omega
  have htf:x.f≠t:=fun e=>by rw [e,h.at0] at hneg; omega
  refine ⟨by simp [h.len],fun v hv=>?_,fun v hv=>?_,?_,fun v hv h0=>?_,fun v hv h0=>?_,fun y hy h1 h2=>?_,fun y hy hyE h1=>?_⟩
  · rw [hg]; have:=h.low v hv; split <;> omega
  · rw [hg]; have:=h.hi v hv; split <;> omega
  · rw [hg,if_neg htf]; exact h.at0
  · rw [hg] at h0
    split at h0
    · omega
    · exact h.zero v hv h0
  · rw [hg] at h0 ⊢
    split at h0
    · rename_i e
      refine ⟨x,hE,e,?_⟩;rw [if_pos e,hg,if_neg hne,hd]; omega
    · rename_i e
      obtain ⟨y,hy,hyf,hyt⟩:=h.step v hv h0
      refine ⟨y,hy,hyf,?_⟩;rw [if_neg e,hg]
      split
      · rename_i e2; rw [← e2,hneg] at hyt; omega
      · exact hyt
  · rw [hg] at h1 h2 ⊢
    split at h1
    · rename_i e; rw [if_pos e] at h2; omega
    · rename_i e
      rw [if_neg e] at h2
      have:=h.old y hy h1 h2
      rw [hg y.t,if_neg e]
      split
      · rename_i e2; rw [← e2,hneg] at this; omega
      · exact this
  · rw [hg] at h1 ⊢
    split
    · omega
    · rename_i e
      split at h1
      · omega
      · rcases List.mem_append.1 hy with hy|hy
        · exact h.pre0 y hy hyE h1
        · rw [List.mem_singleton.1 hy] at e; exact absurd rfl e
theorem LInv.next {ls:List Lk} {pre:List Lk} (hsub:∀ x,E x→x∈ls) (hE:∀ x,E x→x.f<n∧x.t<n) (hp:∀ x∈ls,x∈pre) (h:LInv n t E D d pre):LInv n t E D (d+1) []:=
  ⟨h.len,h.low,fun v hv=>by have:=h.hi v hv; omega,h.at0,h.zero,h.step,fun x hx h1 h2=>by
    by_cases e:D.getD x.t 0=(d:Int)
    · have:=h.pre0 x (hp x (hsub x hx)) hx e
      have:=h.hi x.f (hE x hx).1
      omega
    · exact h.old x hx h1 (by omega),by simp⟩
end
inductive RchN (E:Lk→Prop) (s:Nat):Nat→Nat→Prop
  | refl {k:Nat}:RchN E s k s
  | step {k:Nat} {x:Lk}:RchN E s k x.f→E x→RchN E s (k+1) x.t
theorem RchN.mono {E:Lk→Prop} {s k m v:Nat} (h:RchN E s k v) (hk:k≤m):RchN E s m v:=by
  induction h generalizing m with
  | refl=>exact .refl
  | step _ hx ih =>
    obtain ⟨m',rfl⟩:∃ m',m=m'+1:=⟨m-1,by omega⟩
    exact .step (ih (by omega)) hx
structure KInv (n s:Nat) (E:Lk→Prop) (B:List Bool) (r:Nat) (pre:List Lk):Prop where
  len:B.length=n
  snd:∀ v,v<n→bget B v=true→Rch E s v
  cmp:∀ v,v<n→RchN E s r v→bget B v=true
  pre0:∀ x∈pre,E x→RchN E s r x.f→bget B x.t=true
section
variable {n s:Nat} {E:Lk→Prop} {B:List Bool} {r:Nat}
theorem KInv.start (hs:s<n):KInv n s E ((List.replicate n false).set s true) 0 []:=by
  have hl:s<(List.replicate n false).length:=by simpa using hs
  refine ⟨by simp,fun v _ h=>?_,fun v hv h=>?_,by simp⟩
  · rw [bget_set hl,bget_rep] at h
    split at h
    · rename_i e; rw [← e]; exact .refl
    · simp at h
  · cases h with
    | refl=>rw [bget_set hl]; simp
theorem KInv.skip {pre:List Lk} {x:Lk} (h:KInv n s E B r pre) (hx:E x→bget B x.f=false) (hE:∀ x,E x→x.f<n∧x.t<n):KInv n s E B r (pre ++ [x]):=
  ⟨h.len,h.snd,h.cmp,fun y hy hyE hr=>by
    rcases List.mem_append.1 hy with hy|hy
    · exact h.pre0 y hy hyE hr
    · rw [List.mem_singleton.1 hy] at hyE hr ⊢
      have:=h.cmp x.f (hE x hyE).1 hr
      rw [hx hyE] at this; simp at this⟩
theorem KInv.mark {pre:List Lk} {x:Lk} (h:KInv n s E B r pre) (hx:E x) (hxt:x.t<n) (hxf:x.f<n) (hb:bget B x.f=true):KInv n s E (B.set x.t true) r (pre ++ [x]):=by
  have hl:x.t<B.length:=by rw [h.len]; exact hxt
  have hg:∀ u,bget B u=true→bget (B.set x.t true) u=true:=fun u hu=>by rw [bget_set hl]; split <;> simp [hu]
  refine ⟨by simp [h.len],fun v hv hv2=>?_,fun v hv hr=>hg v (h.cmp v hv hr),fun y hy hyE hr=>?_⟩
  · rw [bget_set hl] at hv2
    split at hv2
    · rename_i e; rw [← e]; exact .step (h.snd x.f hxf hb) hx
    · exact h.snd v hv hv2
  · rcases List.mem_append.1 hy with hy|hy
    · exact hg _ (h.pre0 y hy hyE hr)
    · rw [List.mem_singleton.1 hy,bget_set hl]; simp
theorem KInv.next {ls pre:List Lk} (hsub:∀ x,E x→x∈ls) (hp:∀ x∈ls,x∈pre) (hs:s<n) (h:KInv n s E B r pre):KInv n s E B (r+1) []:=
  ⟨h.len,h.snd,fun v hv hr=>by
    cases hr with
    | refl=>exact h.cmp s hs .refl
    | @step _ x hr hx=>exact h.pre0 x (hp x (hsub x hx)) hx hr,by simp⟩
end
end Go.Flow
namespace Go.Flow
/-! ### the laws -/
section
variable {n s t:Int} {l:List Arc}
theorem value_flw {F:List Int} {v:Int} (h:valueSpec n l F s t=(v,0)):∃ n' s' t':Nat,Good n l s t n' s' t'∧Flw n' l s' t' F∧v=fval s l F:=by
  unfold valueSpec at h
  split at h
  · rename_i h1; simp only [Prod.mk.injEq] at h; exact absurd h.2 h1
  · rename_i h1
    split at h
    · simp at h
    · rename_i h2
      split at h
      · simp at h
      · rename_i h3
        split at h
        · simp at h
        · rename_i h4
          split at h
          · simp at h
          · rename_i h5
            simp only [Prod.mk.injEq,and_true] at h
            have hm:maxErr n l s t=0:=by
              unfold maxErr
              rw [if_neg h1,if_pos (by simpa using h2)]
            obtain ⟨n',s',t',g⟩:=maxErr_good hm
            obtain ⟨rfl,rfl,rfl⟩:=And.intro g.en (And.intro g.es g.et)
            refine ⟨n',s',t',g,⟨by omega,by simpa using h4,fun v hv g1 g2=>?_⟩,h.symm⟩
            simp only [Bool.not_eq_false] at h5;unfold balanced at h5;rw [List.all_eq_true] at h5
            have:=h5 v (by simpa using hv)
            rw [decide_eq_true_eq] at this
            rcases this with h|h|h
            · exact absurd (by omega) g1
            · exact absurd (by omega) g2
            · exact h
theorem side_chk (B:List Bool) (n:Nat):∀ (k:Nat),k≤n→∀ (r:List Int) (p:Option Int),(∀ q,p=some q→∃ m:Nat,q=m∧m<k)→sideChk n p (((List.range' k (n-k)).filter (fun v=>bget B v)).map (fun (v:Nat)=>(v:Int)))=0:=by
  intro k hk r p hp
  generalize hd:n-k=d
  induction d generalizing k p with
  | zero=>simp [sideChk]
  | succ d ih =>
    rw [List.range'_succ,List.filter_cons]
    split
    · simp only [List.map_cons,sideChk]
      rw [if_neg (by omega),if_neg]
      · exact ih (k+1) (by omega) _ (fun q hq=>⟨k,by simpa using hq.symm,by omega⟩) (by omega)
      · cases p with
        | none=>simp
        | some q =>
          obtain ⟨m,rfl,hm⟩:=hp q rfl
          simp; omega
    · exact ih (k+1) (by omega) _ (fun q hq=>by obtain ⟨m,h1,h2⟩:=hp q hq; exact ⟨m,h1,by omega⟩) (by omega)
theorem sideOf_chk (B:List Bool) (n:Nat):sideChk n none (sideOf B n)=0:=by
  have:=side_chk B n 0 (by omega) [] none (by simp)
  rw [Nat.sub_zero,← List.range_eq_range'] at this;exact this
end
end Go.Flow
namespace Go.Step
open Go.Flow (MaxOK CutOK maxErr okEnds_iff run_cut RunR capacitySpec sideOf bget mem_sideOf sideOf_chk sideOf_len fval)
variable {qs:List Int} {cs:List Ct} {bs:List Bk} {hs:List Hd} {d:Dm}
def CutN (qs:List Int) (cs:List Ct) (bs:List Bk) (hs:List Hd) (d:Dm) (side:List Int) (c e:Int):Prop:=CutOK (vsN qs d) (arcsG qs cs bs hs d) (vtx d d.s d.r) (vtx d d.d d.e) side c e
end Go.Step
namespace Go.Flow
end Go.Flow
