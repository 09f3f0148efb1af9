/- Texts of this proof, one after the other; no conditions. -/
import Derived.Lib.RowBridge
import Derived.Test.YtglifndogffmkaaGreatWB3
import Derived.Test.YtglifndogffmkaaGreatWB2
import Derived.Test.YtglifndogffmkaaGreatWB1
import Derived.Test.YtglifndogffmkaaGreatWB0
set_option linter.all false
/- The free spans of a node are exactly the times with room. No program in sight. No conditions. -/
namespace Go.Step
structure InvF (Q s:Int) (G:Int→Int) (T v:Int) (st:Int × List (Int × Int)):Prop where
  ap:Apart 0 T st.2
  fr:st.1 = -1∨(0≤st.1∧st.1≤T∧∀ u∈st.2,u.2<st.1)
  cov:∀ t,0≤t→t<T→((Cov st.2 t∨(0≤st.1∧st.1≤t))↔G t+s≤Q)
  now:0≤st.1↔v+s≤Q
theorem cov_snoc (l:List (Int × Int)) (x:Int × Int) (t:Int):Cov (l ++ [x]) t↔Cov l t∨(x.1≤t∧t<x.2):=by
  unfold Cov
  constructor
  · rintro ⟨s,hs,h⟩
    rcases List.mem_append.1 hs with hs|hs
    · exact .inl ⟨s,hs,h⟩
    · simp only [List.mem_singleton] at hs; subst hs; exact .inr h
  · rintro (⟨s,hs,h⟩|h)
    · exact ⟨s,by simp [hs],h⟩
    · exact ⟨x,by simp,h⟩
theorem apart_snoc {T T':Int} {l:List (Int × Int)} {x:Int × Int} (h:Apart 0 T l) (hT:T≤T') (hx:0≤x.1∧x.1<x.2∧x.2≤T') (hs:∀ u∈l,u.2<x.1):Apart 0 T' (l ++ [x]):=by
  refine ⟨fun s hm=>?_,List.pairwise_append.2 ⟨h.sep,by simp,fun a ha b hb=>?_⟩⟩
  · rcases List.mem_append.1 hm with hm|hm
    · have:=h.ok s hm; omega
    · simp only [List.mem_singleton] at hm; subst hm; exact hx
  · simp only [List.mem_singleton] at hb; subst hb; exact hs a ha
theorem apart_mono {T T':Int} {l:List (Int × Int)} (h:Apart 0 T l) (hT:T≤T'):Apart 0 T' l:=⟨fun s hm=>by have:=h.ok s hm; omega,h.sep⟩
theorem InvF.step {Q s:Int} {G:Int→Int} {T v:Int} {st:Int × List (Int × Int)} (h:InvF Q s G T v st) {T' v':Int} (h0:0≤T) (hT:T<T'∨(T=T'∧st.2=[])) (hG:∀ t,T≤t→t<T'→G t=v):InvF Q s G T' v' (frA Q s st T' v'):=by
  have hle:T≤T':=by omega
  obtain ⟨fr,out⟩:=st
  obtain ⟨hap,hfr,hcov,hnow⟩:=h
  dsimp only at hap hfr hcov hnow hT
  unfold frA
  by_cases hc:Q-v'<s
  · rw [if_pos hc]
    dsimp only
    by_cases ho:0≤fr∧fr<T'
    · rw [if_pos ho]
      have hsep:∀ u∈out,u.2<fr:=by rcases hfr with h|h; omega; exact h.2.2
      refine ⟨apart_snoc hap hle ⟨ho.1,ho.2,Int.le_refl _⟩ hsep,.inl rfl,fun t ht ht2=>?_,by constructor <;> intro h <;> omega⟩
      dsimp only
      rw [cov_snoc]
      dsimp only
      by_cases c:t<T
      · have:=hcov t ht c
        rw [← this]
        constructor
        · rintro ((h|h)|h)
          · exact .inl h
          · exact .inr ⟨ho.1,h.1⟩
          · omega
        · rintro (h|h)
          · exact .inl (.inl h)
          · exact .inl (.inr ⟨h.2,ht2⟩)
      · rw [hG t (by omega) ht2]
        have:=hnow.1 ho.1
        constructor
        · intro _; exact this
        · intro _
          refine .inl (.inr ⟨?_,ht2⟩)
          rcases hfr with h|h <;> omega
    · rw [if_neg ho]
      refine ⟨apart_mono hap hle,.inl rfl,fun t ht ht2=>?_,by constructor <;> intro h <;> dsimp only at * <;> omega⟩
      dsimp only
      by_cases c:t<T
      · rw [← hcov t ht c]
        constructor
        · rintro (h|h)
          · exact .inl h
          · omega
        · rintro (h|h)
          · exact .inl h
          · omega
      · rw [hG t (by omega) ht2]
        constructor
        · rintro (⟨u,hu,h⟩|h)
          · have:=hap.ok u hu; omega
          · omega
        · intro h
          have:=hnow.2 h
          exact absurd ⟨this,by rcases hfr with k|k <;> omega⟩ ho
  · rw [if_neg hc]
    dsimp only
    by_cases ho:fr<0
    · rw [if_pos ho]
      refine ⟨apart_mono hap hle,.inr ⟨by dsimp only; omega,Int.le_refl _,fun u hu=>?_⟩,fun t ht ht2=>?_,by constructor <;> intro h <;> dsimp only at * <;> omega⟩
      · dsimp only at hu ⊢
        have:=hap.ok u hu
        rcases hT with h|h
        · omega
        · rw [h.2] at hu; simp at hu
      · dsimp only
        by_cases c:t<T
        · rw [← hcov t ht c]
          constructor
          · rintro (h|h)
            · exact .inl h
            · omega
          · rintro (h|h)
            · exact .inl h
            · omega
        · rw [hG t (by omega) ht2]
          constructor
          · rintro (⟨u,hu,h⟩|h)
            · have:=hap.ok u hu; omega
            · omega
          · intro h
            have:=hnow.2 h; omega
    · rw [if_neg ho]
      have hf:0≤fr∧fr≤T∧∀ u∈out,u.2<fr:=by
        rcases hfr with h|h
        · omega
        · exact h
      refine ⟨apart_mono hap hle,.inr ⟨hf.1,by dsimp only; omega,hf.2.2⟩,fun t ht ht2=>?_,by constructor <;> intro h <;> dsimp only at * <;> omega⟩
      dsimp only
      by_cases c:t<T
      · exact hcov t ht c
      · rw [hG t (by omega) ht2]
        have:=hnow.1 hf.1
        constructor
        · intro _; exact this
        · intro _; exact .inr ⟨hf.1,by omega⟩
theorem InvF.fin {Q s:Int} {G:Int→Int} {T v:Int} {st:Int × List (Int × Int)} (h:InvF Q s G T v st) (h0:0≤T) (hT:T≤1099511627776) (hG:∀ t,T≤t→t<1099511627776→G t=v) :
    Apart 0 1099511627776 (finA st)∧∀ t,0≤t→t<1099511627776→(Cov (finA st) t↔G t+s≤Q):=by
  obtain ⟨fr,out⟩:=st
  obtain ⟨hap,hfr,hcov,hnow⟩:=h
  dsimp only at hap hfr hcov hnow
  unfold finA
  dsimp only
  by_cases ho:0≤fr∧fr<1099511627776
  · rw [if_pos ho]
    have hf:fr≤T∧∀ u∈out,u.2<fr:=by rcases hfr with h|h; omega; exact h.2
    refine ⟨apart_snoc hap hT ⟨ho.1,ho.2,Int.le_refl _⟩ hf.2,fun t ht ht2=>?_⟩
    rw [cov_snoc]
    dsimp only
    by_cases c:t<T
    · rw [← hcov t ht c]
      constructor
      · rintro (h|h)
        · exact .inl h
        · exact .inr ⟨ho.1,h.1⟩
      · rintro (h|h)
        · exact .inl h
        · exact .inr ⟨h.2,ht2⟩
    · rw [hG t (by omega) ht2]
      have:=hnow.1 ho.1
      constructor
      · intro _; exact this
      · intro _; exact .inr ⟨by omega,ht2⟩
  · rw [if_neg ho]
    refine ⟨apart_mono hap hT,fun t ht ht2=>?_⟩
    by_cases c:t<T
    · rw [← hcov t ht c]
      constructor
      · exact fun h=>.inl h
      · rintro (h|h)
        · exact h
        · omega
    · rw [hG t (by omega) ht2]
      constructor
      · rintro ⟨u,hu,h⟩
        have:=hap.ok u hu; omega
      · intro h
        have:=hnow.2 h
        exact absurd ⟨this,by rcases hfr with k|k <;> omega⟩ ho
theorem free_fold2 {Q s:Int} {G:Int→Int}:∀ {f:List Lv} {p T v:Int} {st:Int × List (Int × Int)},AscT p f→InvF Q s G T v st→0≤T→T≤1099511627776→(T=p∨(p = -1∧T=0∧st.2=[]))→(∀ t,T≤t→G t=vat v f t) →
    Apart 0 1099511627776 (finA (f.foldl (frL Q s) st))∧∀ t,0≤t→t<1099511627776→(Cov (finA (f.foldl (frL Q s) st)) t↔G t+s≤Q)
  | [],p,T,v,st,_,h,h0,h1,_,hG=>h.fin h0 h1 (fun t ht _=>hG t ht)
  | x::f,p,T,v,st,hA,h,h0,h1,hp,hG=>by
    have hxa:p<x.a∧x.a≤1099511627776:=hA.gt x (by simp)
    have hA2:AscT x.a f:=hA.2.2
    have hv1:∀ t,T≤t→t<x.a→G t=v:=fun t ht h2=>by
      rw [hG t ht]
      exact vat_late (x::f) v t (fun l hl=>by simp at hl; subst hl; exact h2)
    rw [List.foldl_cons]
    by_cases c:x.a<1099511627776
    · have e:frL Q s st x=frA Q s st x.a x.v:=by unfold frL; rw [if_pos c]
      rw [e]
      refine free_fold2 (p:=x.a) (T:=x.a) (v:=x.v) hA2 (h.step h0 (by rcases hp with h|⟨h,k,m⟩; exact .inl (by omega); exact if c:T<x.a then .inl c else .inr ⟨by omega,m⟩) hv1) (by omega) hxa.2 (.inl rfl) (fun t ht=>?_)
      rw [hG t (by omega)]
      have:=vat_append [x] f v t (by simpa using ht)
      rw [List.singleton_append] at this
      have e2:vat v [x] t=x.v:=vat_last [] x v t (by simp) ht
      rw [this,e2]
    · have e:frL Q s st x=st:=by unfold frL; rw [if_neg c]
      have hf:f=[]:=by
        cases f with
        | nil=>rfl
        | cons y f=>have:=hA2.gt y (by simp); omega
      subst hf;rw [e]
      exact h.fin h0 h1 (fun t ht h2=>hv1 t ht (by omega))
theorem free_exact {Q s:Int} {f:List Lv} (hA:AscT (-1) f):Apart 0 1099511627776 (freeP Q s f)∧∀ t,0≤t→t<1099511627776→(Cov (freeP Q s f) t↔val f t+s≤Q):=by
  unfold freeP
  refine free_fold2 (G:=val f) (p:=-1) (T:=0) (v:=0) hA ?_ (by omega) (by omega) ?_ (fun t _=>rfl)
  · unfold frA
    by_cases c:Q-0<s
    · rw [if_pos c]
      exact ⟨⟨by simp,by simp⟩,.inl rfl,fun t h1 h2=>by omega,by constructor <;> intro h <;> dsimp only at * <;> omega⟩
    · rw [if_neg c]
      exact ⟨⟨by simp,by simp⟩,.inr ⟨by simp,by simp,by simp⟩,fun t h1 h2=>by omega,by constructor <;> intro h <;> simp at * <;> omega⟩
  · refine .inr ⟨rfl,rfl,?_⟩
    unfold frA
    by_cases c:Q-0<s
    · rw [if_pos c]; rfl
    · rw [if_neg c]
theorem stored_const {n a b:Int} (hab:a≤b):∀ {l:List Hd},(∀ y∈tmH l n,¬ (a<y∧y≤b))→stored l n b=stored l n a
  | [],_=>rfl
  | h::l,H=>by
    have ih:=stored_const hab (l:=l) (fun y hy=>H y (by
      obtain ⟨g,hg,k⟩:=mem_tmH.1 hy
      exact mem_tmH.2 ⟨g,by simp [hg],k⟩))
    simp only [stored,ih]
    by_cases hn:h.n=n
    · have h1:=H h.a (mem_tmH.2 ⟨h,by simp,hn,.inl rfl⟩)
      have h2:=H h.b (mem_tmH.2 ⟨h,by simp,hn,.inr rfl⟩)
      simp only [hn,true_and]
      split <;> split <;> omega
    · simp only [hn,false_and,if_false]
theorem lvH_val {l:List Hd} {n:Int} {nq:Nat} (hok:∀ h∈l,okHd nq h) {t:Int} (ht:-1≤t):val (lvH l n) t=stored l n t:=by
  obtain ⟨h1,h2⟩:=hts_sa l n
  have e0:stored l n (-1)=0:=stored_early (fun h hl hn=>by have:=(hok h hl).2.1; omega)
  unfold lvH val;rw [vat_comb h1]
  have:=tv_eq (F:=stored l n) (p:=-1) (t:=t) h1 (fun x hx=>by
    obtain ⟨h,hl,_,hx⟩:=mem_tmH.1 ((h2 x).1 hx)
    have:=(hok h hl).2.1
    omega) ht (fun a b _ hab hy=>stored_const hab (fun y hm=>hy y ((h2 y).2 hm)))
  rw [e0] at this;exact this
theorem free_holds {l:List Hd} {n Q s:Int} {nq:Nat} (hok:∀ h∈l,okHd nq h) (hl:l.length≤600):Apart 0 1099511627776 (freeP Q s (lvH l n))∧∀ t,0≤t→t<1099511627776→(Cov (freeP Q s (lvH l n)) t↔stored l n t+s≤Q):=by
  obtain ⟨h1,h2⟩:=free_exact (Q:=Q) (s:=s) (lvH_asc (n:=n) hok hl)
  refine ⟨h1,fun t ht ht2=>?_⟩
  rw [h2 t ht ht2,lvH_val hok (by omega)]
end Go.Step
namespace Go.Step
theorem chkH_of {qs:List Int} {cs:List Ct} {l:List Hd} (hp:chkPl qs cs=0) (hl:l.length≤512) (hok:∀ x∈l,okHd qs.length x) (hs:SortH l) (hf:fitB qs l=true):chkH qs cs l=0:=by
  unfold chkH
  rw [if_neg (by simpa using hp),if_neg (by omega),if_neg (by simpa using sortH_first hok hs),if_pos hf]
theorem insH_perm (l:List Hd) (h:Hd):(insH l h).Perm (h::l):=by
  have e:=List.takeWhile_append_dropWhile (p:=fun x=>decide (cmpHd x h≤0)) (l:=l)
  have:=List.perm_middle (a:=h) (l₁:=l.takeWhile (fun x=>decide (cmpHd x h≤0))) (l₂:=l.dropWhile (fun x=>decide (cmpHd x h≤0)))
  rw [e] at this;exact this
end Go.Step
namespace Go.Step
structure Bk where
  c:Int
  a:Int
  b:Int
  k:Int
deriving DecidableEq
def okBk (cs:List Ct) (x:Bk):Prop:=(0≤x.c∧x.c<cs.length∧0≤x.k∧x.k≤1152921504606846976)∧∃ c,cs[x.c.toNat]?=some c∧c.s≤x.a∧x.a<x.b∧x.b≤c.e
def okBkB (cs:List Ct) (x:Bk):Bool:=decide (0≤x.c∧x.c<cs.length∧0≤x.k∧x.k≤1152921504606846976) && (match cs[x.c.toNat]? with
  | some c=>decide (c.s≤x.a∧x.a<x.b∧x.b≤c.e)
  | none=>false)
theorem okBkB_iff (cs:List Ct) (x:Bk):okBkB cs x=true↔okBk cs x:=by
  unfold okBkB okBk;rw [Bool.and_eq_true,decide_eq_true_iff]
  cases h:cs[x.c.toNat]? with
  | none=>simp
  | some c=>simp
def cmpBk (x y:Bk):Int:=orI [cmpI x.c y.c,cmpI x.a y.a]
theorem cmpBk_lt (x y:Bk):cmpBk x y<0↔x.c<y.c∨(x.c=y.c∧x.a<y.a):=by
  unfold cmpBk
  rcases orI_cmp x.c y.c [cmpI x.a y.a] with ⟨h1,e⟩|⟨h1,e⟩|⟨h1,e⟩
  · rw [e]; omega
  · rw [e]
    rcases orI_cmp x.a y.a [] with ⟨h2,e⟩|⟨h2,e⟩|⟨h2,e⟩
    · rw [e]; omega
    · rw [e]; simp only [orI]; omega
    · rw [e]; omega
  · rw [e]; omega
def bk2E (p x:Bk):Int:=if ¬ cmpBk p x<0 then 9 else if p.c=x.c∧x.a<p.b then 14 else 0
def bkE (cs:List Ct) (l:List Bk) (i:Nat):Int:=match l[i]? with
  | some x=>if okBkB cs x=false then 2 else if i=0 then 0 else bk2E (l.getD (i-1) x) x
  | none=>0
theorem bkE_at {cs:List Ct} {l:List Bk} {i:Nat} {x:Bk} (e:l[i]?=some x):bkE cs l i=if okBkB cs x=false then 2 else if i=0 then 0 else bk2E (l.getD (i-1) x) x:=by unfold bkE; rw [e]
def chkB (qs:List Int) (cs:List Ct) (l:List Bk):Int:=
  if chkPl qs cs≠0 then 1 else if 512<l.length then 4 else firstE (bkE cs l) l.length
def chkT (qs:List Int) (cs:List Ct) (bs:List Bk) (hs:List Hd):Int:=
  if chkPl qs cs≠0 then chkPl qs cs else if chkB qs cs bs≠0 then chkB qs cs bs else chkH qs cs hs
def busyL (l:List Bk) (c:Int):List (Int × Int):=(l.filter (fun x=>decide (x.c=c))).map (fun x=>(x.a,x.b))
theorem busyL_next (c:Int) {l:List Bk} {k:Nat} {x:Bk} (h:l[k]?=some x):busyL (l.take (k+1)) c=busyL (l.take k) c ++ (if x.c=c then [(x.a,x.b)] else []):=by
  obtain ⟨hk,rfl⟩:=List.getElem?_eq_some_iff.1 h
  unfold busyL;rw [List.take_succ_eq_append_getElem hk,List.filter_append,List.map_append]
  congr 1
  by_cases e:l[k].c=c
  · simp [e]
  · simp [e]
theorem busyL_len (l:List Bk) (c:Int):(busyL l c).length≤l.length:=by
  unfold busyL;rw [List.length_map];exact List.length_filter_le _ _
def bookedB (l:List Bk) (c t:Int):Bool:=(busyL l c).any (fun x=>decide (x.1≤t) && decide (t<x.2))
theorem bkE_ok {cs:List Ct} {l:List Bk} (h:firstE (bkE cs l) l.length=0):∀ x∈l,okBk cs x:=fun x hx=>by
  obtain ⟨i,hi,rfl⟩:=List.getElem_of_mem hx
  have h2:=firstE_zero h i hi
  rw [bkE_at (List.getElem?_eq_getElem hi)] at h2
  cases hc:okBkB cs l[i] with
  | true=>exact (okBkB_iff _ _).1 hc
  | false=>rw [if_pos hc] at h2; omega
theorem chkT_ok {qs:List Int} {cs:List Ct} {bs:List Bk} {hs:List Hd} (h:chkT qs cs bs hs=0):chkPl qs cs=0∧chkB qs cs bs=0∧chkH qs cs hs=0:=by
  unfold chkT at h
  by_cases h1:chkPl qs cs=0
  · rw [if_neg (by simpa using h1)] at h
    by_cases h2:chkB qs cs bs=0
    · rw [if_neg (by simpa using h2)] at h
      exact ⟨h1,h2,h⟩
    · rw [if_pos h2] at h; exact absurd h h2
  · rw [if_pos h1] at h; exact absurd h h1
theorem chkB_ok {qs:List Int} {cs:List Ct} {bs:List Bk} (h:chkB qs cs bs=0):bs.length≤512∧firstE (bkE cs bs) bs.length=0:=by
  unfold chkB at h
  by_cases h1:chkPl qs cs=0
  · rw [if_neg (by simpa using h1)] at h
    by_cases h2:512<bs.length
    · rw [if_pos h2] at h; omega
    · rw [if_neg h2] at h; exact ⟨by omega,h⟩
  · rw [if_pos h1] at h; omega
end Go.Step
namespace Go.Proofs.YtglifndogffmkaaGreat
open Go.Eng Go.Step
set_option maxRecDepth 100000
set_option maxHeartbeats 64000000
theorem bkValid_spec (τ:PH) (pq pc:Option Addr) (nq kq kc:Nat) (cs:List Ct) (x:Bk) (hc:CtAt τ (.slice pc cs.length kc) cs) :
  Ans Tryz.prog (fv 133) [.agg #[.slice pq nq kq,.slice pc cs.length kc],.agg #[int x.c,int x.a,int x.b,int x.k]] [τ] (fun r=>r=.bool (okBkB cs x)):=by
 obtain ⟨_,_,e,hrc⟩:=hc.val encC_len
 simp only [Value.slice.injEq] at e
 obtain ⟨rfl,_,rfl⟩:=e
 refine spec_in (cap:=[]) Tryz.func133 rfl rfl Tryz.ntmps133 rfl envZ (fun N β=>?_)
 refine Aa ?_;refine BH (BI rfl) rfl rfl rfl ?_;rintro _ _ ⟨b2,rfl,rfl⟩;refine AQ (ρ:=sng b2 _) takeZ ?_
 have cp:=rdB b2 25 [.slice pq nq kq,.slice pc cs.length kc]
 have cp1:=rdC cp 1
 refine BH (BI rfl) rfl rfl rfl ?_;rintro _ _ ⟨b3,rfl,rfl⟩;refine AQ (ρ:=sng b3 _) takeZ ?_
 have cx:=rdB b3 158 [int x.c,int x.a,int x.b,int x.k]
 have cx0:=rdC cx 0
 have cx1:=rdC cx 1
 have cx2:=rdC cx 2
 have cx3:=rdC cx 3
 by_cases hin:0≤x.c∧x.c<cs.length∧0≤x.k∧x.k≤1152921504606846976
 ·obtain ⟨nn,hnn⟩:∃ nn:Nat,x.c=nn:=⟨x.c.toNat,by omega⟩
  have hlt:nn<cs.length:=by omega
  have hx:=List.getElem?_eq_getElem hlt
  obtain ⟨b1,o1,rfl,hrd⟩:=ctRow hrc hx
  have hok:okBkB cs x=decide (cs[nn].s≤x.a∧x.a<x.b∧x.b≤cs[nn].e):=by
   unfold okBkB;rw [decide_eq_true hin,Bool.true_and,hnn,Int.toNat_natCast,hx]
  rw [hok]
  have cn:rdc (sng b3 (.cells #[int x.c,int x.a,int x.b,int x.k] 158 (0,0))) b3 0=some (int nn):=by rw [rdc_sng,← hnn]; rfl
  clear cx0 hok
  generalize cs[nn]=c at hrd
  refine Aaj ?_;refine Aan ?_;refine A7 ?_;refine Abu ?_;refine BC ?_;refine CM ?_;refine Ac0 ?_;refine A7 ?_;refine Ac0 ?_;refine BW ?_;refine Ab3 ?_;refine Adq ?_;refine Abb ?_;refine A4 ?_; rintro _ _ ⟨b,rfl,rfl⟩;refine AW ?_; rintro _ _ ⟨rfl,rfl⟩;refine Aca ?_;refine Aae ?_
  by_cases h1:c.s≤x.a
  ·by_cases h2:x.a<x.b
   ·by_cases h3:x.b≤c.e
    ·rw [decide_eq_true ⟨h1,h2,h3⟩]
     refine DH ?_;refine Abu ?_;refine BK ?_;refine A2 ?_;refine Abu ?_;refine ES ?_;refine Adj ?_;exact A3 ⟨rfl,rfl⟩
    ·rw [decide_eq_false (fun h=>h3 h.2.2)]
     refine DH ?_;refine Abu ?_;refine BK ?_;refine A2 ?_;refine Abu ?_;refine DA ?_;refine Adj ?_;exact A3 ⟨rfl,rfl⟩
   ·rw [decide_eq_false (fun h=>h2 h.2.1)]
    refine DH ?_;refine Abu ?_;refine A7 ?_;refine A2 ?_;refine Ac6 ?_;refine Acl ?_;exact A3 ⟨rfl,rfl⟩
  ·rw [decide_eq_false (fun h=>h1 h.1)]
   refine CM ?_;refine Ac6 ?_;refine AV ?_;refine Ac6 ?_;refine Acl ?_;exact A3 ⟨rfl,rfl⟩
 ·have hok:okBkB cs x=false:=by
   unfold okBkB;rw [decide_eq_false hin,Bool.false_and]
  rw [hok]
  by_cases h1:x.c<0
  ·refine AD ?_
   refine Aam ?_;refine Aan ?_;refine BK ?_;refine Ab5 ?_;refine Aaf ?_;refine A2 ?_;refine Abd ?_;refine A2 ?_;refine Abd ?_;refine A2 ?_;refine Abt ?_;exact A3 ⟨rfl,rfl⟩
  by_cases h2:(cs.length:Int)≤x.c
  ·refine AD ?_
   refine Aam ?_;refine Aan ?_;refine A7 ?_;refine Abu ?_;refine BC ?_;refine DH ?_;refine AV ?_;refine Abd ?_;refine A2 ?_;refine Abd ?_;refine A2 ?_;refine Abt ?_;exact A3 ⟨rfl,rfl⟩
  by_cases h3:x.k<0
  ·refine AD ?_
   refine Aam ?_;refine Aan ?_;refine A7 ?_;refine Abu ?_;refine BC ?_;refine CM ?_;refine Ac0 ?_;refine BK ?_;refine AV ?_;refine Abd ?_;refine A2 ?_;refine Abt ?_;exact A3 ⟨rfl,rfl⟩
  by_cases h4:1152921504606846976<x.k
  ·refine AD ?_
   refine Aam ?_;refine Aan ?_;refine A7 ?_;refine Abu ?_;refine BC ?_;refine CM ?_;refine Ac0 ?_;refine A7 ?_;refine Ac0 ?_;refine CS ?_;refine AV ?_;refine Abt ?_;exact A3 ⟨rfl,rfl⟩
  ·exfalso; omega
def encB (x:Bk):List Value:=[int x.c,int x.a,int x.b,int x.k]
theorem encB_len (x:Bk):(encB x).length=4:=rfl
abbrev BkAt (ρ:PH) (v:Value) (l:List Bk):Prop:=SlE encB 4 ρ v l
theorem bkRow {ρ:PH} {p:Option Addr} {l:List Bk} (h:RowsE encB 4 ρ p l) {i:Nat} {x:Bk} (hx:l[i]?=some x) :
  ∃ b o,p=some ⟨b,o,none⟩∧RdN ρ b (o+i*4) [int x.c,int x.a,int x.b,int x.k]∧rdc ρ b (o+i*4)=some (int x.c)∧rdc ρ b (o+i*4+1)=some (int x.a)∧rdc ρ b (o+i*4+2)=some (int x.b)∧rdc ρ b (o+i*4+3)=some (int x.k):=by
 obtain ⟨b,o,e,hr⟩:=h i x hx
 exact ⟨b,o,e,hr,hr.get0,hr.get (j:=1) rfl,hr.get (j:=2) rfl,hr.get (j:=3) rfl⟩
theorem bkCompare_spec (x y:Bk):Ans Tryz.prog (fv 134) [.agg #[int x.c,int x.a,int x.b,int x.k],.agg #[int y.c,int y.a,int y.b,int y.k]] [] (fun r=>r=int (cmpBk x y)):=by
 refine spec_in (cap:=[]) Tryz.func134 rfl rfl Tryz.ntmps134 rfl envZ (fun N β=>?_)
 refine Aa ?_;refine BU ?_; rintro _ _ ⟨b,rfl,rfl⟩;refine BU ?_; rintro _ _ ⟨b,rfl,rfl⟩;refine Aaj ?_
 refine BD (.q 0 (.q 1 (.q 2 (.q 3 (.q 5 (.q 6 (.q 7 (.q 8 (.l 4 .e (.l 9 .e (.l 10 .e (.l 11 .e (.q 12 .nil))))))))))))) [] rfl (by kernel_rfl) selZ ?_
 refine Adp ?_
 focus ((refine B4 (BP rfl (cmpI_spec _ _) rfl rfl rdZ rfl rfl ?_); rintro _ rfl))
 focus ((refine B4 (BP rfl (cmpI_spec _ _) rfl rfl rdZ rfl rfl ?_); rintro _ rfl))
 refine B5 ?_; rintro _ _ ⟨b,rfl,rfl⟩
 revert b; intro bo
 refine B4 (BP rfl (or_spec (sng bo _) _ [cmpI x.c y.c,cmpI x.a y.a] (slE_sng Eng.encI_len) (by simp)) rfl rfl rdZ rfl rfl ?_)
 rintro _ rfl;refine Acr ?_
 skip
 exact A3 ⟨rfl,rfl⟩
theorem bkCheck_spec (ρ τ σ:PH) (pq pc:Option Addr) (kq kc:Nat) (qs:List Int) (cs:List Ct) (v:Value) (l:List Bk) (hq:IntsAt ρ (.slice pq qs.length kq) qs) (hc:CtAt τ (.slice pc cs.length kc) cs) (hcap:cs.length≤kc) (lq:qs.length≤9223372036854775807) (lc:cs.length≤9223372036854775807) (hv:BkAt σ v l) (hl:l.length≤9223372036854775807) :
  Ans Tryz.prog (fv 67) [.agg #[.slice pq qs.length kq,.slice pc cs.length kc],v] [ρ,τ,σ] (fun r=>r=int (chkB qs cs l)):=by
 have hv2:=hv
 obtain ⟨q,c,rfl,hr⟩:=hv.val encB_len
 refine spec_in (cap:=[]) Tryz.func67 rfl rfl Tryz.ntmps67 rfl envZ (fun N β=>?_)
 refine Aa ?_;refine BH (BI rfl) rfl rfl rfl ?_;rintro _ _ ⟨b1,rfl,rfl⟩;refine AQ (ρ:=sng b1 _) takeZ ?_
 have c1:=rdB b1 25 [.slice pq qs.length kq,.slice pc cs.length kc]
 refine Adg ?_;refine AZ (planCheck_spec ρ τ pq pc kq kc qs cs hq hc hcap lq lc) rfl rfl rdZ rfl rfl ?_;rintro _ rfl;unfold chkB
 by_cases hp:chkPl qs cs=0
 rotate_left
 ·rw [if_pos hp]
  generalize chkPl qs cs=z at hp
  refine C3 ?_;refine Abt ?_;exact A3 ⟨rfl,rfl⟩
 rw [if_neg (fun h=>h hp),hp]
 by_cases hbig:512<l.length
 ·rw [if_pos hbig]
  refine BO ?_;refine Ab6 ?_;refine Adh ?_;refine Abt ?_;exact A3 ⟨rfl,rfl⟩
 rw [if_neg hbig];refine BO ?_;refine Ab6 ?_;refine Acq ?_;refine Ab6 ?_;refine Abk ?_
 refine BF [1,2,13,14] (0:Nat) (fun k=>k≤l.length∧firstE (bkE cs l) k=0) (fun k=>[(15,int k)]) (fun _=>[]) (fun k=>l.length-k) pickZ ⟨by omega,rfl⟩ covZ selZ ?_
 rintro k ⟨hk,hI⟩
 by_cases hlt:k<l.length
 ·have hx:=List.getElem?_eq_getElem hlt
  obtain ⟨b2,o2,rfl,hrd,g0,g1,g2,g3⟩:=bkRow hr hx
  have hE:=bkE_at (cs:=cs) hx
  generalize l[k]=x at hrd g0 g1 g2 g3 hE
  refine Aa7 ?_;refine Aab ?_;refine Abb ?_;refine A4 ?_; rintro _ _ ⟨b,rfl,rfl⟩;refine AD ?_;refine AW ?_; rintro _ _ ⟨rfl,rfl⟩;refine Aam ?_;refine Ac ?_
  revert b; intro b6
  refine AZ (bkValid_spec τ pq pc qs.length kq kc cs x hc) rfl rfl rdZ rfl rfl ?_;rintro _ rfl
  cases hok:okBkB cs x with
  | false =>
   rw [if_pos hok] at hE
   have hh:=firstE_hit hI (by rw [hE]; decide) _ hlt
   rw [hh,hE];refine B6 ?_;refine Abt ?_;exact A3 ⟨rfl,rfl⟩
  | true =>
  rw [if_neg (by rw [hok]; simp)] at hE
  by_cases h0:k=0
  ·subst h0
   rw [if_pos rfl] at hE;refine B6 ?_;refine Ab6 ?_;refine CO ?_;refine Aah ?_;refine A5 rfl ?_;refine AA ?_;refine Aaz ?_
   exact AY (0+1) ⟨by omega,firstE_ok hI hE⟩ (by omega) covZ selZ
  ·have hlt':k-1<l.length:=by omega
   have hx':=List.getElem?_eq_getElem hlt'
   obtain ⟨_,_,e,hrd',p0,p1,p2,p3⟩:=bkRow hr hx'
   simp only [Option.some.injEq,Addr.mk.injEq,and_true] at e
   obtain ⟨rfl,rfl⟩:=e
   rw [if_neg h0,List.getD_eq_getElem?_getD,hx',Option.getD_some] at hE
   generalize l[k-1]=p at hrd' p0 p1 p2 p3 hE
   have hle:=bkCompare_spec p x
   unfold bk2E at hE
   generalize cmpBk p x=z at hle hE
   refine B6 ?_;refine Ab6 ?_;refine CA ?_;refine Aa6 ?_;refine AC ?_
   refine BD (.q 0 (.q 1 (.q 2 (.q 3 (.q 4 (.q 5 (.l 6 .e (.q 7 .nil)))))))) [sng b6 _] rfl (by kernel_rfl) selZ ?_
   refine Ada ?_;refine Abc ?_;refine A8 ?_;refine B4 (BP rfl hle rfl rfl rdZ rfl rfl ?_);rintro _ rfl
   by_cases hc9:z<0
   rotate_left
   ·rw [if_pos hc9] at hE
    have hh:=firstE_hit hI (by rw [hE]; decide) _ hlt
    rw [hh,hE];refine GE ?_;refine Abz ?_;refine Aaq ?_;exact A3 ⟨rfl,rfl⟩
   rw [if_neg (fun h=>h hc9)] at hE
   refine FX ?_;refine Abn ?_;refine Aat ?_
   refine BD P1Z [sng b6 _] rfl (by kernel_rfl) selZ ?_
   by_cases e1:p.c=x.c
   ·by_cases e2:x.a<p.b
    ·rw [if_pos ⟨e1,e2⟩] at hE
     have hh:=firstE_hit hI (by rw [hE]; decide) _ hlt
     rw [hh,hE];refine Ada ?_;refine BB ?_;refine DN ?_;refine AP ?_;refine Aak ?_;refine FC ?_;refine AM ?_;refine Aak ?_;refine Ada ?_;refine BB ?_;refine Abr ?_;refine DO ?_;refine Adl ?_;refine Aaq ?_;exact A3 ⟨rfl,rfl⟩
    ·rw [if_neg (by omega)] at hE
     refine Ada ?_;refine BB ?_;refine DN ?_;refine AP ?_;refine Aak ?_;refine FC ?_;refine AM ?_;refine Aak ?_;refine Ada ?_;refine BB ?_;refine Abr ?_;refine CX ?_;refine BN ?_;refine Acs ?_;refine Aa3 ?_
     exact AY (k+1) ⟨by omega,firstE_ok hI hE⟩ (by omega) covZ selZ
   ·rw [if_neg (by omega)] at hE
    refine Ada ?_;refine BB ?_;refine DN ?_;refine AP ?_;refine Aak ?_;refine FW ?_;refine Acz ?_;refine AU rfl rfl rfl rfl rfl ?_;refine BR ?_;refine Acs ?_;refine Aa3 ?_
    exact AY (k+1) ⟨by omega,firstE_ok hI hE⟩ (by omega) covZ selZ
 have hke:k=l.length:=by omega
 subst hke;rw [hI];refine Abl ?_;refine Aaq ?_;exact A3 ⟨rfl,rfl⟩
def encS (x:Int × Int):List Value:=[int x.1,int x.2]
theorem encS_len (x:Int × Int):(encS x).length=2:=rfl
theorem spRow {ρ:PH} {p:Option Addr} {l:List (Int × Int)} (h:RowsE encS 2 ρ p l) {i:Nat} {x:Int × Int} (hx:l[i]?=some x) :
  ∃ b o,p=some ⟨b,o,none⟩∧RdN ρ b (o+i*2) [int x.1,int x.2]∧rdc ρ b (o+i*2)=some (int x.1)∧rdc ρ b (o+i*2+1)=some (int x.2):=by
 obtain ⟨b,o,e,hr⟩:=h i x hx
 exact ⟨b,o,e,hr,hr.get0,hr.get (j:=1) rfl⟩
structure TbAt (ρ τ σ υ:PH) (pq pc pb ph:Option Addr) (kq kc kb kh:Nat) (qs:List Int) (cs:List Ct) (bs:List Bk) (hs:List Hd):Prop where
 hq:IntsAt ρ (.slice pq qs.length kq) qs
 hc:CtAt τ (.slice pc cs.length kc) cs
 hcap:cs.length≤kc
 lq:qs.length≤9223372036854775807
 lc:cs.length≤9223372036854775807
 hb:BkAt σ (.slice pb bs.length kb) bs
 lb:bs.length≤9223372036854775807
 hh:HdAt υ (.slice ph hs.length kh) hs
 lh:hs.length≤9223372036854775807
theorem TbAt.rq {ρ τ σ υ:PH} {pq pc pb ph:Option Addr} {kq kc kb kh:Nat} {qs:List Int} {cs:List Ct} {bs:List Bk} {hs:List Hd} (hT:TbAt ρ τ σ υ pq pc pb ph kq kc kb kh qs cs bs hs):RowsE Eng.encI 1 ρ pq qs:=by
 obtain ⟨_,_,e,h⟩:=hT.hq.val Eng.encI_len
 simp only [Value.slice.injEq] at e;rw [e.1]; exact h
theorem TbAt.rc {ρ τ σ υ:PH} {pq pc pb ph:Option Addr} {kq kc kb kh:Nat} {qs:List Int} {cs:List Ct} {bs:List Bk} {hs:List Hd} (hT:TbAt ρ τ σ υ pq pc pb ph kq kc kb kh qs cs bs hs):RowsE encC 7 τ pc cs:=by
 obtain ⟨_,_,e,h⟩:=hT.hc.val encC_len
 simp only [Value.slice.injEq] at e;rw [e.1]; exact h
theorem TbAt.rh {ρ τ σ υ:PH} {pq pc pb ph:Option Addr} {kq kc kb kh:Nat} {qs:List Int} {cs:List Ct} {bs:List Bk} {hs:List Hd} (hT:TbAt ρ τ σ υ pq pc pb ph kq kc kb kh qs cs bs hs):RowsE encH 5 υ ph hs:=by
 obtain ⟨_,_,e,h⟩:=hT.hh.val encH_len
 simp only [Value.slice.injEq] at e;rw [e.1]; exact h
theorem chkTab_spec {ρ τ σ υ:PH} {pq pc pb ph:Option Addr} {kq kc kb kh:Nat} {qs:List Int} {cs:List Ct} {bs:List Bk} {hs:List Hd} (hT:TbAt ρ τ σ υ pq pc pb ph kq kc kb kh qs cs bs hs) :
  Ans Tryz.prog (fv 46) [.agg #[.slice pq qs.length kq,.slice pc cs.length kc,.slice pb bs.length kb,.slice ph hs.length kh]] [ρ,τ,σ,υ] (fun r=>r=int (chkT qs cs bs hs)):=by
 refine spec_in (cap:=[]) Tryz.func46 rfl rfl Tryz.ntmps46 rfl envZ (fun N β=>?_)
 refine Aa ?_;refine BH (BI rfl) rfl rfl rfl ?_;rintro _ _ ⟨b1,rfl,rfl⟩;refine AQ (ρ:=sng b1 _) takeZ ?_
 have ct:=rdB b1 42 [.slice pq qs.length kq,.slice pc cs.length kc,.slice pb bs.length kb,.slice ph hs.length kh]
 have ct0:=rdC ct 0
 have ct1:=rdC ct 1
 have ct2:=rdC ct 2
 have ct3:=rdC ct 3
 have ctp:=rdQ (xs:=[_,_]) ct
 refine Aaj ?_;refine Acn ?_;refine AZ (planCheck_spec ρ τ pq pc kq kc qs cs hT.hq hT.hc hT.hcap hT.lq hT.lc) rfl rfl rdZ rfl rfl ?_;rintro _ rfl;unfold chkT
 by_cases h1:chkPl qs cs=0
 rotate_left
 ·rw [if_pos h1]
  generalize chkPl qs cs=z at h1
  refine Abo ?_;refine C3 ?_;refine Acv ?_;exact A3 ⟨rfl,rfl⟩
 rw [if_neg (fun h=>h h1),h1]
 refine Acx ?_;refine Aa6 ?_;refine Acn ?_;refine Aae ?_;refine AZ (bkCheck_spec ρ τ σ pq pc kq kc qs cs _ bs hT.hq hT.hc hT.hcap hT.lq hT.lc hT.hb hT.lb) rfl rfl rdZ rfl rfl ?_;rintro _ rfl
 by_cases h2:chkB qs cs bs=0
 rotate_left
 ·rw [if_pos h2]
  generalize chkB qs cs bs=z at h2
  refine Abo ?_;refine C3 ?_;refine Acv ?_;exact A3 ⟨rfl,rfl⟩
 rw [if_neg (fun h=>h h2),h2]
 refine Acx ?_;refine Aai ?_;refine Acn ?_;refine Aae ?_;refine AZ (check28_spec ρ τ υ pq pc kq kc qs cs _ hs hT.hq hT.hc hT.hcap hT.lq hT.lc hT.hh hT.lh) rfl rfl rdZ rfl rfl ?_;rintro _ rfl;refine Aaa ?_;exact A3 ⟨rfl,rfl⟩
theorem busy_spec (ρ:PH) (v:Value) (l:List Bk) (c:Int) (hv:BkAt ρ v l) (hl:l.length≤1000) :
  Makes Tryz.prog (fv 197) [v,int c] [ρ] (fun r σ=>OwnS 182 2 r (busyL l c).length ((busyL l c).flatMap encS) σ):=by
 obtain ⟨q,cc,rfl,hr⟩:=hv.val encB_len
 refine spec_in (cap:=[]) Tryz.func197 rfl rfl Tryz.ntmps197 rfl envZ (fun N β=>?_)
 refine CC ?_;refine Aaq ?_;refine Adf ?_
 refine BF [1,8,9] (X:=Nat × (Value × PH)) (0,(.slice none 0 0,emp)) (fun x=>x.1≤l.length∧OwnS 182 2 x.2.1 (busyL (l.take x.1) c).length ((busyL (l.take x.1) c).flatMap encS) x.2.2) (fun x=>[(10,int x.1),(5,x.2.1)]) (fun x=>[x.2.2]) (fun x=>l.length-x.1) pickZ ⟨by dsimp only; omega,OwnS.nil _ _⟩ covZ selZ ?_
 rintro ⟨k,u,σ⟩ ⟨hk,hO⟩
 dsimp only at hk hO ⊢
 by_cases hlt:k<l.length
 ·have hx:=List.getElem?_eq_getElem hlt
  have hn:=busyL_next c hx
  have hrl:=busyL_len (l.take k) c
  rw [List.length_take,Nat.min_eq_left hk] at hrl
  obtain ⟨b1,o1,rfl,hRd1,g0,g1,g2,g3⟩:=bkRow hr hx
  generalize l[k]=x at hRd1 g0 g1 g2 g3 hn
  by_cases hc:x.c=c
  rotate_left
  ·rw [if_neg hc,List.append_nil] at hn
   refine Ab2 ?_;refine A4 ?_; rintro _ _ ⟨b,rfl,rfl⟩;refine AW ?_; rintro _ _ ⟨rfl,rfl⟩;refine Aca ?_;refine AB ?_;refine CA ?_;refine Acg ?_
   exact AY (k+1,(u,σ)) ⟨by dsimp only; omega,by dsimp only; rw [hn]; exact hO⟩ (by dsimp only; omega) covZ selZ
  ·rw [if_pos hc] at hn
   refine Ab2 ?_;refine A4 ?_; rintro _ _ ⟨b,rfl,rfl⟩;refine AW ?_; rintro _ _ ⟨rfl,rfl⟩;refine Aca ?_;refine AB ?_;refine CO ?_;refine Aah ?_;refine AA ?_;refine Abu ?_;refine B0 ?_;refine BQ ?_; rintro _ _ ⟨b,rfl,rfl⟩
   refine BH (CG (by_:=16) (s:=2) (news:=[int x.a,int x.b]) rfl rfl rfl rfl rfl rfl rfl hO takeZ (cells_own memZ) rfl oneZ (by omega) (by simp only [maxLen]; omega) (by omega)) rfl rfl rfl ?_
   rintro u1 _ ⟨σ1,hO1,rfl⟩;refine Aaa ?_;refine Aa3 ?_
   refine AY (k+1,(u1,σ1)) ⟨by dsimp only; omega,?_⟩ (by dsimp only; omega) covZ selZ
   dsimp only
   rw [hn,List.length_append,List.flatMap_append];exact hO1
 ·have hke:k=l.length:=by omega
  subst hke;rw [List.take_length] at hO;refine Abl ?_;refine Aa9 ?_;exact AT (res1 rfl rfl) rsubZ selZ ⟨σ,hO,rfl⟩
end Go.Proofs.YtglifndogffmkaaGreat
namespace Go.Step
structure Rq where
  src:Int
  dst:Int
  size:Int
  rdy:Int
  dln:Int
  pri:Int
  cus:Bool
structure Lb where
  n:Int
  f:Int
  t:Int
  a:Int
structure Hp where
  c:Int
  b:Int
  e:Int
  a:Int
structure Gr where
  cs:List Ct
  q:Rq
  gaps:List (List (Int × Int))
  rooms:List (List (Int × Int))
  dur:List Int
def hopB (fr d:Int):List (Int × Int)→Option Int
  | []=>none
  | p::l=>if max p.1 fr+d≤p.2 then some (max p.1 fr) else hopB fr d l
def roomsR (G:Gr) (n:Int):List (Int × Int):=if n=G.q.dst then [(0,1099511627776)] else G.rooms.getD n.toNat []
def hopR (G:Gr) (i:Nat) (c:Ct) (fr:Int):Option Hp:=(hopB fr (G.dur.getD i 0) (G.gaps.getD i [])).map fun b=>⟨i,b,b+G.dur.getD i 0,b+G.dur.getD i 0+c.g⟩
def leaveR (G:Gr) (c:Ct) (h:Hp):Int:=if G.q.cus then h.e+2*c.g else h.e
def mv1 (G:Gr) (x:Lb) (i:Nat) (c:Ct) (r:Int × Int):Option (Lb × Hp):=match hopR G i c (max x.a r.1) with
  | none=>none
  | some h=>if x.t<leaveR G c h∨G.q.dln<h.a∨(c.t≠G.q.dst∧r.2≤h.a) then none else some (⟨c.t,r.1,r.2,h.a⟩,h)
def mvC (G:Gr) (x:Lb) (i:Nat) (c:Ct):List (Lb × Hp):=if c.f≠x.n then [] else (roomsR G c.t).filterMap (mv1 G x i c)
def mvF (G:Gr) (x:Lb):Nat→List Ct→List (Lb × Hp)
  | _,[]=>[]
  | i,c::l=>mvC G x i c ++ mvF G x (i+1) l
def mvs (G:Gr) (x:Lb):List (Lb × Hp):=mvF G x 0 G.cs
structure GOK (G:Gr):Prop where
  cs:∀ c∈G.cs,chkCt c=0∧c.t<G.rooms.length
  lc:G.cs.length≤11
  gl:G.gaps.length=G.cs.length
  dl:G.dur.length=G.cs.length
  gap:∀ l∈G.gaps,l.length≤600∧∀ p∈l,0≤p.1∧p.1<p.2∧p.2≤1099511627776
  room:∀ l∈G.rooms,l.length≤1100∧l.Pairwise (fun p q=>p.2<q.1)∧∀ p∈l,0≤p.1∧p.1<p.2∧p.2≤1099511627776
  rl:G.rooms.length≤6
  dur:∀ d∈G.dur,1≤d∧d≤1099511627776
  q:0≤G.q.src∧G.q.src<G.rooms.length∧0≤G.q.dst∧G.q.dst<G.rooms.length∧0≤G.q.rdy∧G.q.rdy≤G.q.dln∧G.q.dln≤1099511627776∧G.q.src≠G.q.dst
theorem hopB_ok {fr d:Int}:∀ {l:List (Int × Int)} {b:Int},hopB fr d l=some b→∃ p∈l,b=max p.1 fr∧b+d≤p.2
  | [],b,h=>by cases h
  | p::l,b,h=>by
    unfold hopB at h
    split at h
    · rename_i hp; cases h; exact ⟨p,by simp,rfl,hp⟩
    · obtain ⟨q,h1,h2⟩:=hopB_ok h; exact ⟨q,by simp [h1],h2⟩
theorem hopB_skip {fr d:Int} {l:List (Int × Int)} {k:Nat} {p:Int × Int} (h:l[k]?=some p):hopB fr d (l.drop k)=if max p.1 fr+d≤p.2 then some (max p.1 fr) else hopB fr d (l.drop (k+1)):=by
  obtain ⟨hlt,he⟩:=List.getElem?_eq_some_iff.1 h
  rw [List.drop_eq_getElem_cons hlt,he]
  rfl
theorem roomsR_ok {G:Gr} (hg:GOK G) (n:Int):(roomsR G n).length≤1100∧(roomsR G n).Pairwise (fun p q=>p.2<q.1)∧∀ p∈roomsR G n,0≤p.1∧p.1<p.2∧p.2≤1099511627776:=by
  unfold roomsR
  split
  · refine ⟨by simp,by simp,fun p hp=>?_⟩
    simp at hp; subst hp; simp
  · cases h:G.rooms[n.toNat]? with
    | none =>
      have e:G.rooms.getD n.toNat []=[]:=by simp [List.getD_eq_getElem?_getD,h]
      rw [e]; exact ⟨by simp,.nil,fun p hp=>by cases hp⟩
    | some l =>
      have e:G.rooms.getD n.toNat []=l:=by simp [List.getD_eq_getElem?_getD,h]
      rw [e]; exact hg.room l (List.mem_of_getElem? h)
theorem hopR_ok {G:Gr} (hg:GOK G) {i:Nat} {c:Ct} (hi:G.cs[i]?=some c) {fr:Int} {h:Hp} (hh:hopR G i c fr=some h):h.c=i∧fr≤h.b∧0≤h.b∧h.b<h.e∧h.e≤1099511627776∧h.a=h.e+c.g∧h.e=h.b+G.dur.getD i 0:=by
  have hl:=(List.getElem?_eq_some_iff.1 hi).1
  obtain ⟨L,hL⟩:∃ L,G.gaps[i]?=some L:=⟨_,List.getElem?_eq_getElem (by have:=hg.gl; omega)⟩
  obtain ⟨d,hd⟩:∃ d,G.dur[i]?=some d:=⟨_,List.getElem?_eq_getElem (by have:=hg.dl; omega)⟩
  have hdd:=hg.dur d (List.mem_of_getElem? hd)
  have hLL:=(hg.gap L (List.mem_of_getElem? hL)).2
  have e1:G.dur.getD i 0=d:=by simp [List.getD_eq_getElem?_getD,hd]
  have e2:G.gaps.getD i []=L:=by simp [List.getD_eq_getElem?_getD,hL]
  unfold hopR at hh;rw [e1,e2,Option.map_eq_some_iff] at hh
  obtain ⟨b,h1,rfl⟩:=hh
  obtain ⟨p,hp,rfl,h2⟩:=hopB_ok h1
  have:=hLL p hp
  rw [e1]
  refine ⟨rfl,?_,?_,?_,?_,rfl,rfl⟩ <;> dsimp only <;> omega
theorem mvF_app (G:Gr) (x:Lb):∀ (l m:List Ct) (i:Nat),mvF G x i (l ++ m)=mvF G x i l ++ mvF G x (i+l.length) m
  | [],m,i=>by simp [mvF]
  | c::l,m,i=>by
    simp only [List.cons_append,mvF,mvF_app G x l m (i+1),List.length_cons,List.append_assoc]
    rw [show i+1+l.length=i+(l.length+1) by omega]
theorem mvF_next (G:Gr) (x:Lb) {k:Nat} {c:Ct} (h:G.cs[k]?=some c):mvF G x 0 (G.cs.take (k+1))=mvF G x 0 (G.cs.take k) ++ mvC G x k c:=by
  obtain ⟨hlt,he⟩:=List.getElem?_eq_some_iff.1 h
  rw [List.take_add_one,h,mvF_app];simp only [Option.toList_some,mvF,List.append_nil,List.length_take]
  rw [show 0+min k G.cs.length=k by omega]
theorem mvs_split (G:Gr) (x:Lb) {k:Nat} {c:Ct} (h:G.cs[k]?=some c):∃ post,mvs G x=mvF G x 0 (G.cs.take k) ++ (mvC G x k c ++ post):=by
  obtain ⟨hlt,he⟩:=List.getElem?_eq_some_iff.1 h
  refine ⟨mvF G x (k+1) (G.cs.drop (k+1)),?_⟩;unfold mvs;rw [← List.append_assoc,← mvF_next G x h]
  have:=mvF_app G x (G.cs.take (k+1)) (G.cs.drop (k+1)) 0
  rw [List.take_append_drop] at this;rw [this,List.length_take]
  rw [show 0+min (k+1) G.cs.length=k+1 by omega]
theorem fm_next {α β:Type} (f:α→Option β) {l:List α} {j:Nat} {r:α} (h:l[j]?=some r):(l.take (j+1)).filterMap f=(l.take j).filterMap f ++ (f r).toList:=by
  rw [List.take_add_one,h,List.filterMap_append]
  cases e:f r <;> simp [e]
theorem fm_at {α β:Type} (f:α→Option β) {l:List α} {j:Nat} {r:α} {m:β} (h:l[j]?=some r) (hm:f r=some m):∃ post,l.filterMap f=(l.take j).filterMap f ++ m::post:=by
  obtain ⟨hlt,he⟩:=List.getElem?_eq_some_iff.1 h
  refine ⟨(l.drop (j+1)).filterMap f,?_⟩
  conv=>lhs; rw [← List.take_append_drop (j+1) l]
  rw [List.filterMap_append,fm_next f h,hm]
  simp
theorem mvs_at (G:Gr) (x:Lb) {k j:Nat} {c:Ct} {r:Int × Int} {m:Lb × Hp} (h:G.cs[k]?=some c) (hf:c.f=x.n) (hr:(roomsR G c.t)[j]?=some r) (hm:mv1 G x k c r=some m) :
    (mvs G x)[(mvF G x 0 (G.cs.take k)).length+(((roomsR G c.t).take j).filterMap (mv1 G x k c)).length]?=some m:=by
  obtain ⟨p1,h1⟩:=mvs_split G x h
  obtain ⟨p2,h2⟩:=fm_at (mv1 G x k c) hr hm
  have h3:mvC G x k c=(roomsR G c.t).filterMap (mv1 G x k c):=by unfold mvC; rw [if_neg (by simp [hf])]
  rw [h1,h3,h2,List.getElem?_append_right (by omega)]
  rw [show (mvF G x 0 (G.cs.take k)).length+(((roomsR G c.t).take j).filterMap (mv1 G x k c)).length-(mvF G x 0 (G.cs.take k)).length=(((roomsR G c.t).take j).filterMap (mv1 G x k c)).length by omega]
  rw [List.append_assoc,List.getElem?_append_right (by omega)]
  simp
def arrS (G:Gr) (o:Option Int) (m:Lb × Hp):Option Int:=if m.1.n=G.q.dst then (match o with
    | none=>some m.1.a
    | some b=>if m.1.a<b then some m.1.a else some b) else o
theorem arrS_no {G:Gr} {m:Lb × Hp} (h:¬ m.1.n=G.q.dst) (o:Option Int):arrS G o m=o:=by unfold arrS; rw [if_neg h]
theorem arrS_none {G:Gr} {m:Lb × Hp} (h:m.1.n=G.q.dst):arrS G none m=some m.1.a:=by unfold arrS; rw [if_pos h]
theorem arrS_lt {G:Gr} {m:Lb × Hp} (h:m.1.n=G.q.dst) {b:Int} (hb:m.1.a<b):arrS G (some b) m=some m.1.a:=by unfold arrS; rw [if_pos h]; simp [hb]
theorem arrS_ge {G:Gr} {m:Lb × Hp} (h:m.1.n=G.q.dst) {b:Int} (hb:¬ m.1.a<b):arrS G (some b) m=some b:=by unfold arrS; rw [if_pos h]; simp [hb]
def arrR (G:Gr) (l:List Lb):Option Int:=(l.flatMap (mvs G)).foldl (arrS G) none
theorem fold_take {α β:Type} (f:β→α→β) {l:List α} {i:Nat} {x:α} (h:l[i]?=some x) (b:β):(l.take (i+1)).foldl f b=f ((l.take i).foldl f b) x:=by
  rw [List.take_add_one,h,List.foldl_append]; rfl
theorem flat_next {α β:Type} (f:α→List β) {l:List α} {k:Nat} {x:α} (h:l[k]?=some x):(l.take (k+1)).flatMap f=(l.take k).flatMap f ++ f x:=by
  rw [List.take_add_one,h,List.flatMap_append]; simp
end Go.Step
namespace Go.Step
def sameL (x y:Lb):Bool:=decide (x.n=y.n) && decide (x.f=y.f)
theorem sameL_iff {x y:Lb}:sameL x y=true↔x.n=y.n∧x.f=y.f:=by simp [sameL]
theorem sameL_refl (x:Lb):sameL x x=true:=sameL_iff.2 ⟨rfl,rfl⟩
def begs (G:Gr):List Lb:=((G.rooms.getD G.q.src.toNat []).filter (fun p=>decide (p.1≤G.q.rdy) && decide (G.q.rdy<p.2))).map (fun p=>⟨G.q.src,p.1,p.2,G.q.rdy⟩)
inductive RchL (G:Gr):Lb→Prop
  | beg {x:Lb}:x∈begs G→RchL G x
  | mv {x:Lb} {m:Lb × Hp}:RchL G x→m∈mvs G x→m.1.n≠G.q.dst→RchL G m.1
def Fine (G:Gr) (x:Lb):Prop:=x.n≠G.q.dst∧0≤x.n∧x.n<G.rooms.length∧(x.f,x.t)∈G.rooms.getD x.n.toNat []∧x.f≤x.a∧x.a<x.t
theorem mem_mvF {G:Gr} {x:Lb} {m:Lb × Hp}:∀ {l:List Ct} {i:Nat},m∈mvF G x i l→∃ k c,l[k]?=some c∧m∈mvC G x (i+k) c
  | [],i,h=>by cases h
  | c::l,i,h=>by
    unfold mvF at h
    rcases List.mem_append.1 h with h|h
    · exact ⟨0,c,rfl,h⟩
    · obtain ⟨k,c',h1,h2⟩:=mem_mvF h
      exact ⟨k+1,c',by simpa using h1,by rw [show i+(k+1)=i+1+k by omega]; exact h2⟩
theorem mem_mvs {G:Gr} {x:Lb} {m:Lb × Hp} (h:m∈mvs G x):∃ k c r,G.cs[k]?=some c∧c.f=x.n∧r∈roomsR G c.t∧hopR G k c (max x.a r.1)=some m.2∧m.1=⟨c.t,r.1,r.2,m.2.a⟩∧leaveR G c m.2≤x.t∧m.2.a≤G.q.dln∧(c.t≠G.q.dst→m.2.a<r.2):=by
  obtain ⟨k,c,hc,hm⟩:=mem_mvF h
  rw [Nat.zero_add] at hm;unfold mvC at hm
  split at hm
  · cases hm
  · rename_i hf
    rw [List.mem_filterMap] at hm
    obtain ⟨r,hr,hm⟩:=hm
    unfold mv1 at hm
    split at hm
    · cases hm
    · rename_i hp hh
      split at hm
      · cases hm
      · rename_i hno
        cases hm
        refine ⟨k,c,r,hc,Classical.byContradiction fun h=>hf h,hr,hh,rfl,by dsimp only; omega,by dsimp only; omega,fun h=>?_⟩
        dsimp only
        rcases Int.lt_or_le hp.a r.2 with h1|h1
        · exact h1
        · exact absurd (.inr (.inr ⟨h,h1⟩)) hno
theorem mvs_of {G:Gr} {x:Lb} {k:Nat} {c:Ct} {r:Int × Int} {h:Hp} (hc:G.cs[k]?=some c) (hf:c.f=x.n) (hr:r∈roomsR G c.t) (hh:hopR G k c (max x.a r.1)=some h) (h1:leaveR G c h≤x.t) (h2:h.a≤G.q.dln) (h3:c.t≠G.q.dst→h.a<r.2):((⟨c.t,r.1,r.2,h.a⟩,h):Lb × Hp)∈mvs G x:=by
  obtain ⟨j,hj⟩:=List.getElem?_of_mem hr
  refine List.mem_of_getElem? (mvs_at G x hc hf hj ?_);unfold mv1;rw [hh];simp only;rw [if_neg];rintro (q|q|⟨q1,q2⟩)
  · omega
  · omega
  · have:=h3 q1; omega
theorem mvs_later {G:Gr} (hg:GOK G) {x:Lb} {m:Lb × Hp} (h:m∈mvs G x):x.a<m.1.a∧m.1.a≤1099511627776:=by
  obtain ⟨k,c,r,hc,hf,hr,hh,he,h1,h2,h3⟩:=mem_mvs h
  obtain ⟨e1,e2,e3,e4,e5,e6,e7⟩:=hopR_ok hg hc hh
  have hck:=(hg.cs c (List.mem_of_getElem? hc)).1
  have hq:=hg.q
  have hgg:1≤c.g:=by
    unfold chkCt okCt at hck
    split at hck
    · omega
    · rename_i hk; simp only [Classical.not_not] at hk; omega
  rw [he]
  dsimp only
  omega
theorem mvs_fine {G:Gr} (hg:GOK G) {x:Lb} {m:Lb × Hp} (h:m∈mvs G x) (hn:m.1.n≠G.q.dst):Fine G m.1:=by
  obtain ⟨k,c,r,hc,hf,hr,hh,he,h1,h2,h3⟩:=mem_mvs h
  obtain ⟨e1,e2,e3,e4,e5,e6,e7⟩:=hopR_ok hg hc hh
  have hck:=hg.cs c (List.mem_of_getElem? hc)
  rw [he] at hn ⊢
  dsimp only at hn
  unfold roomsR at hr;rw [if_neg hn] at hr
  have hct:0≤c.t∧1≤c.g:=by
    have:=hck.1
    unfold chkCt okCt at this
    split at this
    · omega
    · rename_i hk; simp only [Classical.not_not] at hk; omega
  refine ⟨hn,hct.1,hck.2,hr,?_,h3 hn⟩
  dsimp only
  omega
theorem beg_fine {G:Gr} (hg:GOK G) {x:Lb} (h:x∈begs G):Fine G x:=by
  unfold begs at h;rw [List.mem_map] at h
  obtain ⟨p,hp,rfl⟩:=h
  rw [List.mem_filter,Bool.and_eq_true,decide_eq_true_eq,decide_eq_true_eq] at hp
  have hq:=hg.q
  exact ⟨hq.2.2.2.2.2.2.2,hq.1,hq.2.1,hp.1,hp.2.1,hp.2.2⟩
theorem rch_fine {G:Gr} (hg:GOK G) {x:Lb} (h:RchL G x):Fine G x:=by
  induction h with
  | beg h=>exact beg_fine hg h
  | mv _ h2 h3 _=>exact mvs_fine hg h2 h3
theorem fine_bd {G:Gr} (hg:GOK G) {x:Lb} (h:Fine G x):0≤x.a∧x.a≤1099511627776∧0≤x.f∧x.t≤1099511627776:=by
  obtain ⟨_,f1,f2,f3,f4,f5⟩:=h
  have hlt:x.n.toNat<G.rooms.length:=by omega
  have hr:=List.getElem?_eq_getElem hlt
  rw [List.getD_eq_getElem?_getD,hr,Option.getD_some] at f3
  have:=(hg.room _ (List.mem_of_getElem? hr)).2.2 _ f3
  dsimp only at this
  omega
def CovL (D:List Lb) (x:Lb):Prop:=∃ y∈D,sameL y x=true∧y.a≤x.a
structure LabI (G:Gr) (D O:List Lb):Prop where
  rch:∀ x∈D ++ O,RchL G x
  dis:D.Pairwise (fun x y=>sameL x y=false)
  ord:∀ x∈D,∀ y∈O,x.a≤y.a∧sameL x y=false
  beg:∀ x∈begs G,CovL (D ++ O) x
  clo:∀ x∈D,∀ m∈mvs G x,m.1.n≠G.q.dst→CovL (D ++ O) m.1
  len:O.length≤1100+12100*D.length
def newL (G:Gr) (D:List Lb) (ms:List (Lb × Hp)):List Lb:=(ms.filter (fun m=>decide (m.1.n≠G.q.dst) && !D.any (sameL m.1))).map (·.1)
theorem newL_next {G:Gr} {D:List Lb} {ms:List (Lb × Hp)} {j:Nat} {m:Lb × Hp} (h:ms[j]?=some m):newL G D (ms.take (j+1))=newL G D (ms.take j) ++ (if m.1.n≠G.q.dst∧D.any (sameL m.1)=false then [m.1] else []):=by
  unfold newL;rw [List.take_add_one,h,List.filter_append,List.map_append]
  congr 1
  by_cases c1:m.1.n=G.q.dst <;> cases c2:D.any (sameL m.1) <;> simp [c1,c2]
theorem LabI.zero {G:Gr} (hg:GOK G):LabI G [] (begs G):=by
  refine ⟨fun x hx=>.beg (by simpa using hx),.nil,fun x hx=>(by cases hx),fun x hx=>⟨x,by simpa using hx,sameL_refl x,Int.le_refl _⟩,fun x hx=>(by cases hx),?_⟩
  have h:=(roomsR_ok hg)
  have hl:(G.rooms.getD G.q.src.toNat []).length≤1100:=by
    cases h:G.rooms[G.q.src.toNat]? with
    | none=>simp [List.getD_eq_getElem?_getD,h]
    | some l=>have:=(hg.room l (List.mem_of_getElem? h)).1; simpa [List.getD_eq_getElem?_getD,h] using this
  have:=List.length_filter_le (fun p=>decide (p.1≤G.q.rdy) && decide (G.q.rdy<p.2)) (G.rooms.getD G.q.src.toNat [])
  simp only [begs,List.length_map,List.length_nil];omega
theorem mvs_len {G:Gr} (hg:GOK G) (x:Lb):(mvs G x).length≤12100:=by
  have key:∀ (l:List Ct) (i:Nat),(mvF G x i l).length≤1100*l.length:=by
    intro l
    induction l with
    | nil=>intro i; simp [mvF]
    | cons c l ih =>
      intro i
      have h1:=ih (i+1)
      have h2:(mvC G x i c).length≤1100:=by
        unfold mvC
        split
        · simp
        · have:=List.length_filterMap_le (mv1 G x i c) (roomsR G c.t)
          have:=(roomsR_ok hg c.t).1
          omega
      simp only [mvF,List.length_append,List.length_cons];omega
  have:=key G.cs 0
  have:=hg.lc
  unfold mvs;omega
theorem LabI.step {G:Gr} (hg:GOK G) {D O:List Lb} (h:LabI G D O) {x:Lb} (hx:x∈O) (hmin:∀ y∈O,x.a≤y.a):LabI G (D ++ [x]) (O.filter (fun y=>!sameL x y) ++ newL G (D ++ [x]) (mvs G x)):=by
  have hD:∀ d∈D ++ [x],d.a≤x.a:=fun d hd=>by
    rcases List.mem_append.1 hd with hd|hd
    · exact (h.ord d hd x hx).1
    · simp at hd; subst hd; exact Int.le_refl _
  have hnew:∀ {y},y∈newL G (D ++ [x]) (mvs G x)↔∃ m∈mvs G x,m.1.n≠G.q.dst∧(D ++ [x]).any (sameL m.1)=false∧m.1=y:=fun {y}=>by
    unfold newL;simp only [List.mem_map,List.mem_filter,Bool.and_eq_true,decide_eq_true_eq,Bool.not_eq_true']
    constructor
    · rintro ⟨m,⟨h1,h2,h3⟩,h4⟩; exact ⟨m,h1,h2,h3,h4⟩
    · rintro ⟨m,h1,h2,h3,h4⟩; exact ⟨m,⟨h1,h2,h3⟩,h4⟩
  have up:∀ {z},CovL (D ++ O) z→CovL (D ++ [x] ++ (O.filter (fun y=>!sameL x y) ++ newL G (D ++ [x]) (mvs G x))) z:=fun {z} ⟨y,hy,h1,h2⟩=>by
    rcases List.mem_append.1 hy with hy|hy
    · exact ⟨y,by simp [hy],h1,h2⟩
    · by_cases hs:sameL x y=true
      · refine ⟨x,by simp,?_,Int.le_trans (hmin y hy) h2⟩
        rw [sameL_iff] at *; omega
      · exact ⟨y,by simp [hy,hs],h1,h2⟩
  refine ⟨fun y hy=>?_,?_,fun d hd y hy=>?_,fun b hb=>up (h.beg b hb),fun d hd m hm hn=>?_,?_⟩
  · rw [List.append_assoc] at hy
    rcases List.mem_append.1 hy with hy|hy
    · exact h.rch y (by simp [hy])
    · rcases List.mem_append.1 hy with hy|hy
      · simp at hy; subst hy; exact h.rch y (by simp [hx])
      · rcases List.mem_append.1 hy with hy|hy
        · exact h.rch y (by simp [(List.mem_filter.1 hy).1])
        · obtain ⟨m,h1,h2,_,rfl⟩:=hnew.1 hy
          exact .mv (h.rch x (by simp [hx])) h1 h2
  · rw [List.pairwise_append]
    refine ⟨h.dis,by simp,fun a ha b hb=>?_⟩
    simp at hb; subst hb
    exact (h.ord a ha b hx).2
  · have hdx:=hD d hd
    rcases List.mem_append.1 hy with hy|hy
    · rw [List.mem_filter,Bool.not_eq_true'] at hy
      refine ⟨Int.le_trans hdx (hmin y hy.1),?_⟩
      rcases List.mem_append.1 hd with hd|hd
      · exact (h.ord d hd y hy.1).2
      · simp at hd; subst hd; exact hy.2
    · obtain ⟨m,h1,h2,h3,rfl⟩:=hnew.1 hy
      have:=(mvs_later hg h1).1
      refine ⟨by omega,?_⟩
      have h4:=List.any_eq_false.1 h3 d hd
      cases e:sameL d m.1 with
      | false=>rfl
      | true=>rw [sameL_iff] at e; exact absurd (sameL_iff.2 ⟨e.1.symm,e.2.symm⟩) h4
  · rcases List.mem_append.1 hd with hd|hd
    · exact up (h.clo d hd m hm hn)
    · simp at hd; subst hd
      cases e:(D ++ [d]).any (sameL m.1) with
      | false=>exact ⟨m.1,by simp only [List.mem_append]; exact .inr (.inr (hnew.2 ⟨m,hm,hn,e,rfl⟩)),sameL_refl _,Int.le_refl _⟩
      | true =>
        obtain ⟨d',hd',hs⟩:=List.any_eq_true.1 e
        have h1:=hD d' hd'
        have h2:=(mvs_later hg hm).1
        refine ⟨d',by simp only [List.mem_append] at hd' ⊢; exact .inl hd',?_,by omega⟩
        rw [sameL_iff] at *; omega
  · have h1:=List.length_filter_le (fun y=>!sameL x y) O
    have h2:(newL G (D ++ [x]) (mvs G x)).length≤12100:=by
      have h3:=mvs_len hg x
      have h4:=List.length_filter_le (fun m:Lb × Hp=>decide (m.1.n≠G.q.dst) && !(D ++ [x]).any (sameL m.1)) (mvs G x)
      unfold newL;rw [List.length_map];omega
    have:=h.len
    simp only [List.length_append,List.length_cons,List.length_nil];omega
/-! only so many labels can be done -/
theorem nodup_leA {α:Type} [DecidableEq α]:∀ {a b:List α},a.Nodup→(∀ x∈a,x∈b)→a.length≤b.length
  | [],b,_,_=>Nat.zero_le _
  | x::a,b,hn,h=>by
    have hx:=h x (by simp)
    have hn':=List.nodup_cons.1 hn
    have:=nodup_leA (a:=a) (b:=b.erase x) hn'.2 (fun y hy=>(List.mem_erase_of_ne (fun e=>hn'.1 (by subst e; exact hy))).2 (h y (by simp [hy])))
    rw [List.length_erase_of_mem hx] at this
    have:=List.length_pos_of_mem hx
    simp only [List.length_cons];omega
def keyR:Nat→List (List (Int × Int))→List (Int × Int)
  | _,[]=>[]
  | n,l::r=>l.map (fun p=>((n:Int),p.1)) ++ keyR (n+1) r
theorem keyR_mem:∀ {r:List (List (Int × Int))} {n k:Nat} {l:List (Int × Int)} {p:Int × Int},r[k]?=some l→p∈l→(((n+k:Nat):Int),p.1)∈keyR n r
  | [],n,k,l,p,h,_=>by simp at h
  | l0::r,n,0,l,p,h,hp=>by
    simp at h; subst h
    unfold keyR;exact List.mem_append.2 (.inl (List.mem_map.2 ⟨p,hp,rfl⟩))
  | l0::r,n,k+1,l,p,h,hp=>by
    unfold keyR;refine List.mem_append.2 (.inr ?_)
    rw [show n+(k+1)=n+1+k by omega]
    exact keyR_mem (by simpa using h) hp
theorem keyR_len:∀ {r:List (List (Int × Int))} {n:Nat},(∀ l∈r,l.length≤1100)→(keyR n r).length≤1100*r.length
  | [],n,_=>by simp [keyR]
  | l::r,n,h=>by
    have h1:=keyR_len (r:=r) (n:=n+1) (fun l hl=>h l (by simp [hl]))
    have h2:=h l (by simp)
    simp only [keyR,List.length_append,List.length_map,List.length_cons];omega
theorem LabI.few {G:Gr} (hg:GOK G) {D O:List Lb} (h:LabI G D O):D.length≤6600:=by
  have h1:(D.map (fun x=>(x.n,x.f))).length≤(keyR 0 G.rooms).length:=by
    refine nodup_leA ?_ (fun z hz=>?_)
    · unfold List.Nodup
      rw [List.pairwise_map]
      refine h.dis.imp (fun {x y} hxy e=>?_)
      simp only [Prod.mk.injEq] at e;rw [sameL_iff.2 e] at hxy; cases hxy
    · rw [List.mem_map] at hz
      obtain ⟨x,hx,rfl⟩:=hz
      obtain ⟨_,f1,f2,f3,_,_⟩:=rch_fine hg (h.rch x (by simp [hx]))
      have hlt:x.n.toNat<G.rooms.length:=by omega
      have hr:=List.getElem?_eq_getElem hlt
      rw [List.getD_eq_getElem?_getD,hr,Option.getD_some] at f3
      have:=keyR_mem (n:=0) hr f3
      rw [show (((0+x.n.toNat:Nat)):Int)=x.n by omega] at this
      exact this
  have h2:=keyR_len (r:=G.rooms) (n:=0) (fun l hl=>(hg.room l hl).1)
  have:=hg.rl
  rw [List.length_map] at h1;omega
structure LabR (G:Gr) (L:List Lb):Prop where
  rch:∀ x∈L,RchL G x
  beg:∀ x∈begs G,CovL L x
  clo:∀ x∈L,∀ m∈mvs G x,m.1.n≠G.q.dst→CovL L m.1
  len:L.length≤6600
  dis:L.Pairwise (fun x y=>sameL x y=false)
theorem LabI.done {G:Gr} (hg:GOK G) {D L:List Lb} (h:LabI G D []) (hp:L.Perm D):LabR G L:=by
  have cov:∀ {x},CovL (D ++ []) x→CovL L x:=fun {x} ⟨y,h1,h2⟩=>⟨y,hp.mem_iff.2 (by simpa using h1),h2⟩
  exact ⟨fun x hx=>h.rch x (by simp [hp.mem_iff.1 hx]),fun x hx=>cov (h.beg x hx),fun x hx m hm hn=>cov (h.clo x (hp.mem_iff.1 hx) m hm hn),by rw [hp.length_eq]; exact h.few hg,(hp.pairwise_iff (fun {x y} hxy=>by cases e:sameL y x with
    | false=>rfl
    | true=>rw [sameL_iff.2 ⟨(sameL_iff.1 e).1.symm,(sameL_iff.1 e).2.symm⟩] at hxy; cases hxy)).2 h.dis⟩
end Go.Step
namespace Go.Step
structure Dm where
  s:Int
  d:Int
  v:Int
  r:Int
  e:Int
deriving DecidableEq
structure Sh where
  c:Int
  t:Int
  n:Int
deriving DecidableEq
def okDm (nq:Nat) (d:Dm):Prop:=(0≤d.s∧d.s<nq)∧(0≤d.d∧d.d<nq)∧d.s≠d.d∧(1≤d.v∧d.v≤1099511627776)∧(0≤d.r∧d.r<d.e∧d.e≤1099511627776∧d.e-d.r≤100)
instance (nq:Nat) (d:Dm):Decidable (okDm nq d):=inferInstanceAs (Decidable (_∧_))
def validT (qs:List Int) (cs:List Ct) (bs:List Bk) (hs:List Hd) (d:Dm):Bool:=decide (chkT qs cs bs hs=0∧okDm qs.length d)
def sameSl (x y:Sh):Bool:=decide (x.c=y.c∧x.t=y.t)
def ctOf (cs:List Ct) (x:Sh):Ct:=cs.getD x.c.toNat ⟨0,0,0,0,0,0,0⟩
def arrOf (cs:List Ct) (x:Sh):Int:=x.t+1+(ctOf cs x).g
def roomT (qs:List Int) (hs:List Hd) (d:Dm) (n t:Int):Int:=if n=d.s∨n=d.d then 1099511627776 else qs.getD n.toNat 0-stored hs n t
end Go.Step
namespace Go.Step
end Go.Step
namespace Go.Step
def okSp (x:Int × Int):Prop:=x.1<x.2 ∧ -1152921504606846976≤x.1∧x.2≤1152921504606846976
instance (x:Int × Int):Decidable (okSp x):=inferInstanceAs (Decidable (_∧_))
def spE (l:List (Int × Int)) (i:Nat):Int:=match l[i]? with
  | some x=>if ¬ okSp x then 2 else if 0<i∧x.1≤(l.getD (i-1) x).2 then 9 else 0
  | none=>0
def chkI (l:List (Int × Int)):Int:=if 1000<l.length then 4 else firstE (spE l) l.length
def inSp (t:Int) (x:Int × Int):Bool:=decide (x.1≤t) && decide (t<x.2)
end Go.Step
namespace Go.Step
abbrev Cu:=List (List (Int × Int))
def cuAt (c:Cu) (n:Int):List (Int × Int):=c.getD n.toNat []
end Go.Step
namespace Go.Step
end Go.Step
namespace Go.Step
abbrev Iv:=List (Int × Int)
def NormI (l:Iv):Prop:=(∀ x∈l,x.1<x.2)∧l.Pairwise (fun x y=>x.2<y.1)
def memI (l:Iv) (t:Int):Bool:=l.any (inSp t)
theorem inSp_iff {t:Int} {x:Int × Int}:inSp t x=true↔x.1≤t∧t<x.2:=by simp [inSp]
theorem memI_iff {l:Iv} {t:Int}:memI l t=true↔∃ x∈l,x.1≤t∧t<x.2:=by simp [memI,inSp]
theorem memI_cons (x:Int × Int) (l:Iv) (t:Int):memI (x::l) t=(inSp t x || memI l t):=rfl
theorem NormI.nil:NormI []:=⟨by simp,.nil⟩
theorem NormI.tail {x:Int × Int} {l:Iv} (h:NormI (x::l)):NormI l:=⟨fun y hy=>h.1 y (by simp [hy]),(List.pairwise_cons.1 h.2).2⟩
theorem NormI.hd {x:Int × Int} {l:Iv} (h:NormI (x::l)):x.1<x.2∧∀ y∈l,x.2<y.1:=⟨h.1 x (by simp),(List.pairwise_cons.1 h.2).1⟩
theorem NormI.cons {x:Int × Int} {l:Iv} (h:NormI l) (h1:x.1<x.2) (h2:∀ y∈l,x.2<y.1):NormI (x::l):=
  ⟨fun y hy=>by
    rcases List.mem_cons.1 hy with rfl|hy
    · exact h1
    · exact h.1 y hy,List.pairwise_cons.2 ⟨h2,h.2⟩⟩
theorem memI_lo2 {x:Int × Int} {l:Iv} {t:Int} (h:NormI (x::l)) (hm:memI l t=true):x.2<t:=by
  obtain ⟨y,hy,h1,h2⟩:=memI_iff.1 hm
  have b:=h.hd.2 y hy
  omega
/-! sets that are checked -/
/-! one more span -/
def absI:Iv→Int × Int→Iv
  | [],x=>[x]
  | y::l,x=>if y.1≤x.2 then absI l (min x.1 y.1,max x.2 y.2) else x::y::l
def insI:Iv→Int × Int→Iv
  | [],x=>[x]
  | y::l,x=>if y.2<x.1 then y::insI l x else absI (y::l) x
def insAll (a:Iv) (b:Iv):Iv:=b.foldl insI a
/-! intersection,span by span -/
/-! ends of spans -/
def parT:List Int→Int→Bool
  | [],_=>false
  | e::E,t=>if e≤t then !(parT E t) else parT E t
def oddB (n:Nat):Bool:=decide (n % 2=1)
theorem oddB_succ (n:Nat):oddB (n+1) = !(oddB n):=by
  unfold oddB
  by_cases h:n % 2=1
  · rw [decide_eq_true h,decide_eq_false (by omega)]; rfl
  · rw [decide_eq_false h,decide_eq_true (by omega)]; rfl
theorem parT_snoc (t x:Int):∀ O:List Int,parT (O ++ [t]) x=if t≤x then !(parT O x) else parT O x
  | []=>by simp [parT]
  | o::O=>by
    have ih:=parT_snoc t x O
    show (if o≤x then !(parT (O ++ [t]) x) else parT (O ++ [t]) x)=if t≤x then !(if o≤x then !(parT O x) else parT O x) else (if o≤x then !(parT O x) else parT O x)
    rw [ih]
    split <;> split <;> rfl
theorem parT_all {x:Int}:∀ {O:List Int},(∀ o∈O,o≤x)→parT O x=oddB O.length
  | [],_=>rfl
  | o::O,h=>by
    show (if o≤x then !(parT O x) else parT O x)=oddB (O.length+1)
    rw [if_pos (h o (by simp)),parT_all (fun p hp=>h p (by simp [hp])),oddB_succ]
theorem parT_none {x:Int}:∀ {O:List Int},(∀ o∈O,x<o)→parT O x=false
  | [],_=>rfl
  | o::O,h=>by
    show (if o≤x then !(parT O x) else parT O x)=false
    have:=h o (by simp)
    rw [if_neg (by omega),parT_none (fun p hp=>h p (by simp [hp]))]
def mcomb1 (f:Bool→Bool→Bool) (O:List Int) (e:Int × Bool × Bool):List Int:=if f e.2.1 e.2.2=oddB O.length then O else O ++ [e.1]
structure Cm (f:Bool→Bool→Bool) (A:List Int) (p:Bool) (B:List Int) (q:Bool) (O O':List Int):Prop where
  asc:O'.Pairwise (· < ·)
  hi:∀ x,(∀ o∈O,o≤x)→parT O' x=f (p ^^ parT A x) (q ^^ parT B x)
  lo:∀ x,(∀ a∈A,x<a)→(∀ b∈B,x<b)→parT O' x=parT O x
  len:O'.length≤O.length+A.length+B.length
theorem Cm.step {f:Bool→Bool→Bool} {A A1:List Int} {p p1:Bool} {B B1:List Int} {q q1:Bool} {O O':List Int} {t:Int}
    (h:Cm f A1 p1 B1 q1 (mcomb1 f O (t,p1,q1)) O') (ho:oddB O.length=f p q) (hA:∀ a∈A,t≤a) (hB:∀ b∈B,t≤b) (hOt:∀ o∈O,o<t)
    (eA:∀ x,t≤x→(p1 ^^ parT A1 x)=(p ^^ parT A x)) (eB:∀ x,t≤x→(q1 ^^ parT B1 x)=(q ^^ parT B x)) (sA:∀ a∈A1,t<a) (sB:∀ b∈B1,t<b) (hl:A1.length+B1.length+1≤A.length+B.length) (hin:t∈A∨t∈B):Cm f A p B q O O':=by
  have hmem:∀ o∈mcomb1 f O (t,p1,q1),o≤t:=fun o ho=>by
    unfold mcomb1 at ho
    split at ho
    · have:=hOt o ho; omega
    · rcases List.mem_append.1 ho with h|h
      · have:=hOt o h; omega
      · have:=List.mem_singleton.1 h; omega
  have hpre:∀ x,x<t→parT (mcomb1 f O (t,p1,q1)) x=parT O x:=fun x hx=>by
    unfold mcomb1
    split
    · rfl
    · rw [parT_snoc,if_neg (by dsimp only; omega)]
  have hcl:(mcomb1 f O (t,p1,q1)).length≤O.length+1:=by
    unfold mcomb1
    split
    · omega
    · simp
  refine ⟨h.asc,fun x hx=>?_,fun x hx hy=>?_,by have:=h.len; omega⟩
  · by_cases ht:t≤x
    · rw [h.hi x (fun o ho=>Int.le_trans (hmem o ho) ht),eA x ht,eB x ht]
    · rw [h.lo x (fun a ha=>by have:=sA a ha; omega) (fun b hb=>by have:=sB b hb; omega),hpre x (by omega),parT_all hx,parT_none (fun a ha=>by have:=hA a ha; omega),parT_none (fun b hb=>by have:=hB b hb; omega),Bool.xor_false,Bool.xor_false,ho]
  · have ht:x<t:=by
      rcases hin with h|h
      · exact hx t h
      · exact hy t h
    rw [h.lo x (fun a ha=>by have:=sA a ha; omega) (fun b hb=>by have:=sB b hb; omega),hpre x ht]
end Go.Step
namespace Go.Step
end Go.Step
namespace Go.Step
theorem bks_apart {cs:List Ct} {l:List Bk} (h:firstE (bkE cs l) l.length=0):l.Pairwise (fun x y=>x.c<y.c∨(x.c=y.c∧x.b≤y.a)):=by
  have hok:=bkE_ok h
  have hlt:∀ x∈l,x.a<x.b:=fun x hx=>by
    obtain ⟨_,c,_,_,h2,_⟩:=hok x hx
    exact h2
  have hstep:∀ i,(hi:i+1<l.length)→l[i].c<l[i+1].c∨(l[i].c=l[i+1].c∧l[i].b≤l[i+1].a):=fun i hi=>by
    have h2:=firstE_zero h (i+1) hi
    rw [bkE_at (List.getElem?_eq_getElem hi)] at h2
    split at h2
    · omega
    rw [if_neg (by omega)] at h2
    rw [Nat.add_sub_cancel,List.getD_eq_getElem?_getD,List.getElem?_eq_getElem (by omega),Option.getD_some] at h2
    unfold bk2E at h2
    split at h2
    · omega
    rename_i h3
    split at h2
    · omega
    rename_i h4
    have h5:=(cmpBk_lt _ _).1 (Decidable.not_not.1 h3)
    omega
  rw [List.pairwise_iff_getElem]
  intro i j hi hj hij
  obtain ⟨k,rfl⟩:∃ k,j=i+1+k:=⟨j-i-1,by omega⟩
  induction k with
  | zero=>exact hstep i hj
  | succ k ih =>
    have h1:=ih (by omega) (by omega)
    have h2:=hstep (i+1+k) (by omega)
    have h3:=hlt _ (List.getElem_mem (show i+1+k<l.length by omega))
    have e:i+1+(k+1)=i+1+k+1:=by omega
    simp only [e];omega
theorem busy_apart {cs:List Ct} {l:List Bk} (h:firstE (bkE cs l) l.length=0) (c:Int):(busyL l c).Pairwise (fun x y=>x.2≤y.1):=by
  unfold busyL;rw [List.pairwise_map]
  refine ((bks_apart h).filter _).imp_of_mem (fun {x y} hx hy hxy=>?_)
  have h1:=of_decide_eq_true (List.mem_filter.1 hx).2
  have h2:=of_decide_eq_true (List.mem_filter.1 hy).2
  dsimp only
  omega
theorem busy_in {cs:List Ct} {l:List Bk} (h:firstE (bkE cs l) l.length=0) {i:Nat} {c:Ct} (hc:cs[i]?=some c):∀ x∈busyL l i,c.s≤x.1∧x.1<x.2∧x.2≤c.e:=fun x hx=>by
  unfold busyL at hx
  obtain ⟨y,hy,rfl⟩:=List.mem_map.1 hx
  obtain ⟨hy1,hy2⟩:=List.mem_filter.1 hy
  have h2:=of_decide_eq_true hy2
  obtain ⟨_,c',e,h3⟩:=bkE_ok h y hy1
  rw [h2,Int.toNat_natCast,hc] at e
  obtain rfl:=Option.some.inj e
  exact h3
def gapsP (e:Int):Int→List (Int × Int)→List (Int × Int)
  | a,[]=>if a<e then [(a,e)] else []
  | a,x::l=>(if a<x.1 then [(a,x.1)] else []) ++ gapsP e x.2 l
theorem gapsP_len (e:Int):∀ (l:List (Int × Int)) (a:Int),(gapsP e a l).length≤l.length+1
  | [],a=>by unfold gapsP; split <;> simp
  | x::l,a=>by
    have:=gapsP_len e l x.2
    unfold gapsP;rw [List.length_append,List.length_cons]
    split <;> simp <;> omega
theorem gapsP_ok {e:Int}:∀ {l:List (Int × Int)} {a:Int},(∀ x∈l,a≤x.1∧x.1<x.2∧x.2≤e)→l.Pairwise (fun x y=>x.2≤y.1)→NormI (gapsP e a l)∧(∀ z∈gapsP e a l,a≤z.1∧z.2≤e)∧∀ t,memI (gapsP e a l) t=(decide (a≤t∧t<e) && !(memI l t))
  | [],a,_,_=>by
    unfold gapsP
    by_cases h:a<e
    · rw [if_pos h]
      refine ⟨NormI.nil.cons h (by simp),fun z hz=>?_,fun t=>?_⟩
      · rw [List.mem_singleton.1 hz]
        exact ⟨Int.le_refl _,Int.le_refl _⟩
      · simp [memI,inSp]
    · rw [if_neg h]
      refine ⟨NormI.nil,by simp,fun t=>?_⟩
      rw [decide_eq_false (by omega)]
      simp [memI]
  | x::l,a,hb,hp=>by
    obtain ⟨p1,p2⟩:=List.pairwise_cons.1 hp
    obtain ⟨h1,h2,h3⟩:=hb x (by simp)
    obtain ⟨k1,k2,k3⟩:=gapsP_ok (e:=e) (l:=l) (a:=x.2) (fun y hy=>⟨p1 y hy,(hb y (by simp [hy])).2⟩) p2
    unfold gapsP
    have hm:∀ t,memI l t=true→x.2≤t:=fun t ht=>by
      obtain ⟨y,hy,h4,_⟩:=memI_iff.1 ht
      have:=p1 y hy
      omega
    have hx:∀ t,inSp t x=decide (x.1≤t∧t<x.2):=fun t=>by rw [Bool.eq_iff_iff,inSp_iff,decide_eq_true_eq]
    by_cases h:a<x.1
    · rw [if_pos h,List.singleton_append]
      refine ⟨k1.cons h (fun z hz=>?_),fun z hz=>?_,fun t=>?_⟩
      · have:=k2 z hz
        dsimp only
        omega
      · rcases List.mem_cons.1 hz with rfl|hz
        · dsimp only; omega
        · have:=k2 z hz; omega
      · rw [memI_cons,memI_cons,k3,hx]
        have e1:inSp t (a,x.1)=decide (a≤t∧t<x.1):=by rw [Bool.eq_iff_iff,inSp_iff,decide_eq_true_eq]
        rw [e1]
        have hmt:=hm t
        cases hml:memI l t with
        | true =>
          have:=hmt hml
          rw [decide_eq_false (show ¬ (a≤t∧t<x.1) by omega)]
          simp
        | false =>
          simp only [Bool.not_false,Bool.and_true,Bool.or_false];rw [Bool.eq_iff_iff];simp only [Bool.or_eq_true,Bool.and_eq_true,decide_eq_true_eq,Bool.not_eq_true',decide_eq_false_iff_not];omega
    · rw [if_neg h,List.nil_append]
      refine ⟨k1,fun z hz=>by have:=k2 z hz; omega,fun t=>?_⟩
      rw [memI_cons,k3,hx]
      have hmt:=hm t
      cases hml:memI l t with
      | true =>
        have:=hmt hml
        simp
      | false =>
        simp only [Bool.not_false,Bool.and_true,Bool.or_false];rw [Bool.eq_iff_iff];simp only [Bool.and_eq_true,decide_eq_true_eq,Bool.not_eq_true',decide_eq_false_iff_not];omega
def freeC (cs:List Ct) (bs:List Bk) (i:Nat):List (Int × Int):=match cs[i]? with
  | some c=>gapsP c.e c.s (busyL bs i)
  | none=>[]
theorem freeC_ok {cs:List Ct} {bs:List Bk} (h:firstE (bkE cs bs) bs.length=0) {i:Nat} {c:Ct} (hc:cs[i]?=some c):NormI (freeC cs bs i)∧(∀ z∈freeC cs bs i,c.s≤z.1∧z.2≤c.e)∧∀ t,memI (freeC cs bs i) t=(decide (c.s≤t∧t<c.e) && !(bookedB bs i t)):=by
  have hf:freeC cs bs i=gapsP c.e c.s (busyL bs i):=by unfold freeC; rw [hc]
  rw [hf];exact gapsP_ok (busy_in h hc) (busy_apart h i)
def rngI (a b:Int):List Int:=(List.range (b-a).toNat).map (fun k:Nat=>a+k)
theorem mem_rngI {a b t:Int}:t∈rngI a b↔a≤t∧t<b:=by
  unfold rngI;rw [List.mem_map]
  constructor
  · rintro ⟨k,hk,rfl⟩
    rw [List.mem_range] at hk;omega
  · rintro ⟨h1,h2⟩
    exact ⟨(t-a).toNat,by rw [List.mem_range]; omega,by omega⟩
theorem rngI_asc (a b:Int):(rngI a b).Pairwise (· < ·):=by
  unfold rngI;rw [List.pairwise_map]
  exact List.pairwise_lt_range.imp (fun {x y} h=>by omega)
theorem rngI_len (a b:Int):(rngI a b).length=(b-a).toNat:=by simp [rngI]
theorem asc_ext:∀ {a b:List Int},a.Pairwise (· < ·)→b.Pairwise (· < ·)→(∀ t,t∈a↔t∈b)→a=b
  | [],[],_,_,_=>rfl
  | [],y::b,_,_,h=>by have:=(h y).2 (by simp); simp at this
  | x::a,[],_,_,h=>by have:=(h x).1 (by simp); simp at this
  | x::a,y::b,ha,hb,h=>by
    obtain ⟨a1,a2⟩:=List.pairwise_cons.1 ha
    obtain ⟨b1,b2⟩:=List.pairwise_cons.1 hb
    have e:x=y:=by
      have h1:=(h x).1 (by simp)
      have h2:=(h y).2 (by simp)
      rcases List.mem_cons.1 h1 with h1|h1
      · exact h1
      · rcases List.mem_cons.1 h2 with h2|h2
        · exact h2.symm
        · have:=b1 x h1
          have:=a1 y h2
          omega
    subst e
    congr 1
    refine asc_ext a2 b2 (fun t=>⟨fun ht=>?_,fun ht=>?_⟩)
    · have h1:=(h t).1 (by simp [ht])
      rcases List.mem_cons.1 h1 with rfl|h1
      · have:=a1 t ht; omega
      · exact h1
    · have h1:=(h t).2 (by simp [ht])
      rcases List.mem_cons.1 h1 with rfl|h1
      · have:=b1 t ht; omega
      · exact h1
def tickS (r e g:Int) (x:Int × Int):List Int:=rngI (max x.1 r) (min x.2 (e-g))
def tickL (r e g:Int) (l:List (Int × Int)):List Int:=l.flatMap (tickS r e g)
theorem mem_tickL {r e g t:Int} {l:List (Int × Int)}:t∈tickL r e g l↔memI l t=true∧r≤t∧t+g<e:=by
  unfold tickL tickS;rw [List.mem_flatMap,memI_iff]
  constructor
  · rintro ⟨x,hx,h⟩
    rw [mem_rngI] at h
    exact ⟨⟨x,hx,by omega,by omega⟩,by omega,by omega⟩
  · rintro ⟨⟨x,hx,h1,h2⟩,h3,h4⟩
    exact ⟨x,hx,by rw [mem_rngI]; omega⟩
theorem tickL_asc {r e g:Int}:∀ {l:List (Int × Int)},NormI l→(tickL r e g l).Pairwise (· < ·)
  | [],_=>.nil
  | x::l,h=>by
    have ih:=tickL_asc (r:=r) (e:=e) (g:=g) h.tail
    show (tickS r e g x ++ tickL r e g l).Pairwise (· < ·)
    rw [List.pairwise_append]
    refine ⟨rngI_asc _ _,ih,fun a ha b hb=>?_⟩
    have h1:=(mem_tickL.1 hb).1
    have h2:=memI_lo2 h h1
    unfold tickS at ha;rw [mem_rngI] at ha;omega
end Go.Step
namespace Go.Step
def segsF:Nat→Int→List Int
  | 0,_=>[]
  | n+1,left=>if 0<left then min left 16::segsF n (left-16) else []
def segsL (s:Int):List Int:=segsF s.toNat s
def tickC (c:Ct) (n:Int):Int:=(n+8+c.r-1) / c.r
def passC (c:Ct) (s:Int):Int:=(segsL s).foldl (fun a n=>a+tickC c n) 0
def durC (c:Ct) (s:Int):Int:=passC c s+c.l*(2*c.g+1+tickC c 16)
theorem segsF_ok:∀ (n:Nat) (s:Int),s≤n→(∀ x∈segsF n s,1≤x∧x≤16)∧(∀ (j:Nat) x,(segsF n s)[j]?=some x→x=min (s-16*j) 16∧0<s-16*j)∧(0<s→0<(segsF n s).length)∧16*(segsF n s).length<max 0 s+16∧s≤16*(segsF n s).length
  | 0,s,h=>⟨fun x hx=>(by cases hx),fun j x hx=>(by cases hx),fun h0=>(by omega),by simp [segsF]; omega,by simp [segsF]; omega⟩
  | n+1,s,h=>by
    unfold segsF
    by_cases h0:0<s
    · obtain ⟨a,b,c,d,e⟩:=segsF_ok n (s-16) (by omega)
      rw [if_pos h0]
      refine ⟨fun x hx=>?_,fun j x hx=>?_,fun _=>by simp,?_,?_⟩
      · rcases List.mem_cons.1 hx with rfl|hx
        · omega
        · exact a x hx
      · cases j with
        | zero=>simp at hx; subst hx; exact ⟨by simp,by omega⟩
        | succ j =>
          simp only [List.getElem?_cons_succ] at hx
          have:=b j x hx
          omega
      · rw [List.length_cons]; omega
      · rw [List.length_cons]; omega
    · rw [if_neg h0]
      refine ⟨fun x hx=>(by cases hx),fun j x hx=>(by cases hx),fun h=>absurd h h0,?_,?_⟩
      · simp; omega
      · simp; omega
theorem segsL_ok (s:Int) (h0:0≤s):(∀ x∈segsL s,1≤x∧x≤16)∧(∀ (j:Nat) x,(segsL s)[j]?=some x→x=min (s-16*j) 16∧0<s-16*j)∧(0<s→0<(segsL s).length)∧16*(segsL s).length<max 0 s+16∧s≤16*(segsL s).length:=segsF_ok _ _ (by omega)
theorem tickC_bd {c:Ct} {n:Int} (hr:1≤c.r) (hn:1≤n∧n≤16):1≤tickC c n∧tickC c n≤24:=by
  unfold tickC
  constructor
  · exact (Int.le_ediv_iff_mul_le (by omega)).2 (by omega)
  · refine Int.le_of_lt_add_one ((Int.ediv_lt_iff_lt_mul (by omega)).2 ?_)
    have:c.r*24≥24+24*(c.r-1):=by omega
    omega
theorem fold_bd (c:Ct) (hr:1≤c.r):∀ (l:List Int) (a:Int),(∀ x∈l,1≤x∧x≤16)→a+l.length≤l.foldl (fun a n=>a+tickC c n) a∧l.foldl (fun a n=>a+tickC c n) a≤a+24*l.length
  | [],a,h=>by simp
  | x::l,a,h=>by
    have:=fold_bd c hr l (a+tickC c x) (fun y hy=>h y (by simp [hy]))
    have hx:=tickC_bd hr (h x (by simp))
    rw [List.foldl_cons,List.length_cons];omega
theorem durC_bd {c:Ct} {s:Int} (hc:chkCt c=0) (hs:1≤s∧s≤65536):1≤durC c s∧durC c s≤40000000∧0≤passC c s∧passC c s≤100000:=by
  have hok:okCt c:=by
    unfold chkCt at hc
    split at hc
    · omega
    · rename_i h; exact Decidable.not_not.1 h
  obtain ⟨_,_,hr,hg,hl⟩:=hok
  obtain ⟨a,b,d,e,f⟩:=segsL_ok s (by omega)
  have h1:=fold_bd c hr.1 (segsL s) 0 a
  have h2:=d (by omega)
  have h3:=tickC_bd (c:=c) (n:=16) hr.1 (by omega)
  have h4:0≤c.l*(2*c.g+1+tickC c 16)∧c.l*(2*c.g+1+tickC c 16)≤16*(2*c.g+1+tickC c 16):=⟨Int.mul_nonneg hl.1 (by omega),Int.mul_le_mul_of_nonneg_right hl.2 (by omega)⟩
  unfold durC passC;omega
def grOf (qs:List Int) (cs:List Ct) (bs:List Bk) (hs:List Hd) (q:Rq):Gr:=⟨cs,q,(List.range cs.length).map (freeC cs bs),(List.range qs.length).map (fun n=>freeP (qs.getD n 0) q.size (lvH hs n)),cs.map (fun c=>durC c q.size)⟩
def okRq (n:Nat) (q:Rq):Prop:=(0≤q.src∧q.src<n∧0≤q.dst∧q.dst<n)∧q.src≠q.dst∧(1≤q.size∧q.size≤65536∧0≤q.rdy∧q.rdy≤q.dln∧q.dln≤1099511627776)∧0≤q.pri∧q.pri≤2
structure TOK (qs:List Int) (cs:List Ct) (bs:List Bk) (hs:List Hd) (q:Rq):Prop where
  t:chkT qs cs bs hs=0
  q:okRq qs.length q
  lq:qs.length≤6
  lc:cs.length≤11
theorem ctE_ok {n:Nat} {cs:List Ct} {i:Nat} {c:Ct} (hc:cs[i]?=some c) (h:ctE n cs i=0):chkCt c=0∧c.f<n∧c.t<n:=by
  unfold ctE at h;rw [hc] at h;simp only at h
  split at h
  · contradiction
  · rename_i h1
    split at h
    · omega
    · exact ⟨Decidable.not_not.1 h1,by omega,by omega⟩
theorem chkPl_ok {qs:List Int} {cs:List Ct} (h:chkPl qs cs=0):(1≤qs.length∧qs.length≤16∧cs.length≤64)∧firstE (quoE qs) qs.length=0∧firstE (ctE qs.length cs) cs.length=0:=by
  unfold chkPl at h
  split at h
  · omega
  · split at h
    · contradiction
    · rename_i h1 h2
      exact ⟨by omega,Decidable.not_not.1 h2,h⟩
theorem chkPl_ct {qs:List Int} {cs:List Ct} (h:chkPl qs cs=0) {c:Ct} (hc:c∈cs):chkCt c=0∧c.f<qs.length∧c.t<qs.length:=by
  obtain ⟨i,hi,rfl⟩:=List.getElem_of_mem hc
  exact ctE_ok (List.getElem?_eq_getElem hi) (firstE_zero (chkPl_ok h).2.2 i hi)
theorem chkH_ok {qs:List Int} {cs:List Ct} {hs:List Hd} (h:chkH qs cs hs=0):hs.length≤512∧∀ x∈hs,okHd qs.length x:=by
  unfold chkH at h
  split at h
  · omega
  · split at h
    · omega
    · split at h
      · contradiction
      · rename_i h1 h2 h3
        refine ⟨by omega,fun x hx=>?_⟩
        have:=hdE_ok (Decidable.not_not.1 h3) x (by rw [List.take_length]; exact hx)
        exact this
theorem tmH_len (l:List Hd) (n:Int):(tmH l n).length≤2*l.length:=by
  unfold tmH
  induction l with
  | nil=>simp
  | cons x l ih =>
    rw [List.flatMap_cons,List.length_append,List.length_cons]
    have:(if x.n=n then [x.a,x.b] else []).length≤2:=by split <;> simp
    omega
theorem lvH_len (l:List Hd) (n:Int):(lvH l n).length≤2*l.length:=by
  unfold lvH
  have h1:=comb_len (stored l n) (hts l n) 0
  have h2:(hts l n).length≤(tmH l n).length:=by
    unfold hts
    exact Nat.le_trans (Go.Lib.compact_length_le _) (by rw [List.length_mergeSort]; omega)
  have:=tmH_len l n
  omega
theorem freeP_len (Q s:Int) (f:List Lv):(freeP Q s f).length≤f.length+2:=by
  have h1:=frS_len Q s f f.length
  unfold frS at h1;rw [List.take_length] at h1;unfold freeP finA
  split
  · rw [List.length_append,List.length_singleton]; omega
  · omega
section
variable {qs:List Int} {cs:List Ct} {bs:List Bk} {hs:List Hd} {q:Rq}
theorem gaps_at (qs:List Int) (cs:List Ct) (bs:List Bk) (hs:List Hd) (q:Rq) {i:Nat} (h:i<cs.length):(grOf qs cs bs hs q).gaps[i]?=some (freeC cs bs i):=by
  show ((List.range cs.length).map (freeC cs bs))[i]?=_
  rw [List.getElem?_map,List.getElem?_range h]; rfl
theorem grOf_ok (h:TOK qs cs bs hs q):GOK (grOf qs cs bs hs q):=by
  obtain ⟨ht,hq,lq,lc⟩:=h
  obtain ⟨hp,hb,hh⟩:=chkT_ok ht
  obtain ⟨hb1,hb2⟩:=chkB_ok hb
  obtain ⟨hh1,hh2⟩:=chkH_ok hh
  have hrl:(grOf qs cs bs hs q).rooms.length=qs.length:=by simp [grOf]
  refine ⟨fun c hc=>?_,lc,by simp [grOf],by simp [grOf],fun l hl=>?_,fun l hl=>?_,by rw [hrl]; exact lq,fun d hd=>?_,?_⟩
  · have:=chkPl_ct hp (c:=c) hc
    rw [hrl];exact ⟨this.1,this.2.2⟩
  · obtain ⟨i,hi,rfl⟩:=List.mem_map.1 hl
    rw [List.mem_range] at hi
    have hc:=List.getElem?_eq_getElem hi
    obtain ⟨f1,f2,f3⟩:=freeC_ok hb2 hc
    have hse:=chkCt_se (chkPl_ct hp (List.mem_of_getElem? hc)).1
    refine ⟨?_,fun p hpp=>?_⟩
    · have e:freeC cs bs i=gapsP cs[i].e cs[i].s (busyL bs i):=by unfold freeC; rw [hc]
      rw [e]
      have h1:=gapsP_len cs[i].e (busyL bs i) cs[i].s
      have h2:=busyL_len bs i
      omega
    · have h1:=f1.1 p hpp
      have h2:=f2 p hpp
      omega
  · obtain ⟨i,hi,rfl⟩:=List.mem_map.1 hl
    have hA:=(free_holds (n:=i) (Q:=qs.getD i 0) (s:=q.size) hh2 (by omega)).1
    refine ⟨?_,hA.sep,fun p hpp=>?_⟩
    · have h1:=freeP_len (qs.getD i 0) q.size (lvH hs i)
      have h2:=lvH_len hs i
      omega
    · have:=hA.ok p hpp; omega
  · obtain ⟨c,hc,rfl⟩:=List.mem_map.1 hd
    have:=durC_bd (s:=q.size) (chkPl_ct hp hc).1 ⟨hq.2.2.1.1,hq.2.2.1.2.1⟩
    omega
  · rw [hrl]
    obtain ⟨⟨a1,a2,a3,a4⟩,b,⟨c1,c2,c3,c4,c5⟩,_⟩:=hq
    exact ⟨a1,a2,a3,a4,c3,c4,c5,b⟩
theorem gaps_asc (h:TOK qs cs bs hs q) (i:Nat):((grOf qs cs bs hs q).gaps.getD i []).Pairwise (fun x y=>x.2<y.1):=by
  obtain ⟨hp,hb,hh⟩:=chkT_ok h.t
  by_cases hi:i<cs.length
  · rw [List.getD_eq_getElem?_getD,gaps_at qs cs bs hs q hi,Option.getD_some]
    exact (freeC_ok (chkB_ok hb).2 (List.getElem?_eq_getElem hi)).1.2
  · have:(grOf qs cs bs hs q).gaps[i]?=none:=by
      rw [List.getElem?_eq_none_iff]; simp [grOf]; omega
    rw [List.getD_eq_getElem?_getD,this];exact .nil
end
end Go.Step
namespace Go.Proofs.YtglifndogffmkaaGreat
open Go.Eng Go.Step
set_option maxRecDepth 100000
set_option maxHeartbeats 64000000
theorem okCt_of {c:Ct} (hc:chkCt c=0):okCt c:=by
 unfold chkCt at hc
 split at hc
 ·omega
 ·rename_i h; exact Decidable.not_not.1 h
theorem ticks_spec (c:Ct) (n:Int) (hr:1≤c.r∧c.r≤1000) (hn:1≤n∧n≤16):Ans Tryz.prog (fv 199) [.agg #[int c.f,int c.t,int c.s,int c.e,int c.r,int c.g,int c.l],int n] [] (fun r=>r=int (tickC c n)):=by
 refine spec_in (cap:=[]) Tryz.func199 rfl rfl Tryz.ntmps199 rfl envZ (fun N β=>?_)
 unfold tickC;refine Aa ?_;refine BU ?_; rintro _ _ ⟨b,rfl,rfl⟩;refine Abo ?_;refine BY ?_;refine Aae ?_;refine BY ?_;refine BZ ?_;refine Aae ?_;refine zq_quo ?_;refine Aaa ?_;exact A3 ⟨rfl,rfl⟩
theorem segs_spec (s:Int):Eng.Spec Tryz.prog (fv 250) [int s] [] [] (fun r H'=>∃ c1,r=.func (.func 271) #[] #[.pointer (some ⟨c1,0,none⟩)]∧H'=[sng c1 (.cells #[int s] 3 (0,0))]):=by
 refine spec_in (cap:=[]) Tryz.func250 rfl rfl Tryz.ntmps250 rfl envZ (fun N β=>?_)
 refine Aa ?_;refine BH (DP rfl rfl) rfl rfl rfl ?_;rintro _ _ ⟨c1,rfl,rfl⟩;refine Adm ?_;refine B3 ?_;refine Aaa ?_;exact AT (res1 rfl rfl) rsubZ selZ ⟨c1,rfl,rfl⟩
theorem segs_iter (c1:Nat) (s:Int) (hs:1≤s∧s≤65536) :
  Iter Tryz.prog (.func (.func 271) #[] #[.pointer (some ⟨c1,0,none⟩)]) [sng c1 (.cells #[int s] 3 (0,0))] ((segsL s).map (fun n=>[int n])):=by
 intro y S Own Inv Stop Ry hy hyl σ0 hI0
 obtain ⟨yl,rfl⟩:=hyl
 obtain ⟨h1,h2,h3,h4,h5⟩:=segsL_ok s (by omega)
 generalize segsL s=Q at hy hI0 h1 h2 h3 h4 h5 ⊢
 have bx59_3:=rdB c1 3 [int s]
 have v1:=rdC bx59_3 0
 simp only [List.cons_append,List.nil_append]
 refine spec_in (cap:=[.pointer (some ⟨c1,0,none⟩)]) Tryz.func271 rfl rfl Tryz.ntmps271 rfl envZ (fun N β=>?_)
 refine Aa8 ?_;refine Aaa ?_;refine AL ?_
 refine BF [0,1] (X:=Nat × Int × S) (0,s,σ0) (fun z=>z.1≤Q.length∧z.2.1=s-16*z.1∧Inv z.1 z.2.2) (fun z=>[(3,int z.2.1)]) (fun z=>Own z.2.2) (fun z=>Q.length-z.1) pickZ ⟨by dsimp only; omega,by dsimp only; omega,hI0⟩ covZ Sel.refl ?_
 rintro ⟨k,lf,σ1⟩ ⟨hk,hlf,hI⟩
 dsimp only at hk hlf hI ⊢
 by_cases hlt:k<Q.length
 rotate_left
 ·have hke:k=Q.length:=by omega
  subst hke;refine AC ?_;refine Aab ?_;refine BW ?_;refine Aa1 ?_
  refine A9 (res0 rfl) (fun _ h=>h) Sel.refl ⟨σ1,rfl,.inl ?_⟩
  rw [List.length_map];exact hI
 have hx:=List.getElem?_eq_getElem hlt
 have hb:=h1 _ (List.mem_of_getElem? hx)
 obtain ⟨e1,e2⟩:=h2 k _ hx
 have hya:=hy k σ1 [int Q[k]] (by rw [List.getElem?_map,hx]; rfl) hI
 rw [← hlf] at e1 e2
 generalize Q[k]=x at hx hb e1 hya
 refine AC ?_;refine Aab ?_;refine CS ?_;refine Aah ?_;refine Aau ?_;refine Aag ?_;refine FZ ?_
 focus ((rw [← e1]))
 refine BA hya rfl rfl Takes.all (fun τ hτ=>.inl (by simp [hτ])) rfl rfl ?_
 rintro _ H' ⟨σ2,rfl,⟨rfl,hI2⟩|⟨rfl,hSt⟩⟩
 ·rw [List.append_nil]
  refine B6 ?_;refine Aai ?_;refine Acb ?_;refine BZ ?_;refine Aaa ?_
  exact AY (k+1,lf-16,σ2) ⟨by dsimp only; omega,by dsimp only; omega,hI2⟩ (by dsimp only; omega) covZ Sel.refl
 ·rw [List.append_nil]
  refine B6 ?_;refine Aah ?_
  exact AT (res0 rfl) (fun _ h=>h) Sel.refl ⟨σ2,rfl,.inr hSt⟩
theorem pass_spec (c:Ct) (s:Int) (hr:1≤c.r∧c.r≤1000) (hs:1≤s∧s≤65536):Ans Tryz.prog (fv 198) [.agg #[int c.f,int c.t,int c.s,int c.e,int c.r,int c.g,int c.l],int s] [] (fun r=>r=int (passC c s)):=by
 refine spec_in (cap:=[]) Tryz.func198 rfl rfl Tryz.ntmps198 rfl envZ (fun N β=>?_)
 obtain ⟨h1,h2,h3,h4,h5⟩:=segsL_ok s (by omega)
 have htk:=fun n hn=>ticks_spec c n hr hn
 refine Aa ?_;refine BH (BI rfl) rfl rfl rfl ?_;rintro _ _ ⟨b2,rfl,rfl⟩;refine AQ (ρ:=sng b2 _) takeZ ?_
 have cb:=rdB b2 61 [int c.f,int c.t,int c.s,int c.e,int c.r,int c.g,int c.l]
 refine Adm ?_;refine CB ?_; rintro _ _ ⟨b,rfl,rfl⟩;refine BM ?_; rintro _ _ ⟨rfl,rfl⟩;refine Aam ?_;refine Aab ?_
 revert b; intro b5
 refine BA (segs_spec s) rfl rfl takesZ rdZ rfl rfl ?_;rintro _ _ ⟨c1,rfl,rfl⟩;simp only [List.cons_append,List.nil_append];refine AQ (ρ:=sng c1 _) takeZ ?_;refine Adi ?_
 refine DF (gf:=271) (cap:=[.pointer (some ⟨c1,0,none⟩)]) (ps:=[9]) (X:=Int) rfl Tryz.func271 rfl rfl
  (segs_iter c1 s hs) ?_ (fun j o=>o=((segsL s).take j).foldl (fun a n=>a+tickC c n) 0) (fun o=>[sng b5 (.cells #[int o] 3 (0,0))]) (fun _ _=>False) (0:Int) rfl takesZ rfl ?_ ?_ ?_
 ·intro σ hσ
  simp only [List.mem_cons,List.not_mem_nil,or_false] at hσ ⊢
  simp [hσ]
 ·rintro lo r j o vs hvs hI hps has hbd hst hpe hfr
  obtain ⟨st,pe,fnn,tm,prm,asg,bdy,df⟩:=r
  simp only at hps has hbd hst hpe hfr;subst hps has hbd hst hpe;rw [List.getElem?_map] at hvs
  obtain ⟨n,hn,rfl⟩:=Option.map_eq_some_iff.1 hvs
  have hft:=fold_take (fun a n=>a+tickC c n) hn 0
  have hnb:=h1 n (List.mem_of_getElem? hn)
  have hbd:=fold_bd c hr.1 ((segsL s).take j) 0 (fun x hx=>h1 x (List.mem_of_mem_take hx))
  rw [← hI] at hft hbd;rw [List.length_take] at hbd
  have htn:=tickC_bd hr.1 hnb
  refine yield_spec hfr rfl (by intro p hp; simp at hp; omega) putiZ (fun N' β'=>?_)
  refine AA ?_;refine Aaa ?_;refine C5 rfl rfl ?_;refine DE takeZ rfl ?_;refine AL ?_
  refine BD (.q 0 (.q 1 (.q 2 (.l 3 .e (.q 4 (.l 5 .b .nil)))))) [] rfl (by kernel_rfl) selZ ?_
  refine AP ?_;refine A8 ?_;refine AM ?_;refine B4 (BP rfl (htk n hnb) rfl rfl rdZ rfl rfl ?_);rintro _ rfl;refine C1 ?_;refine CN ?_; rintro _ _ ⟨rfl,rfl⟩;refine BE ?_;refine A6 ?_;exact B9 takeZ rsubZ selZ ⟨_,.inl ⟨rfl,hft.symm,rfl⟩⟩
 ·rintro bm o hI
  rw [List.length_map,List.take_length] at hI;subst hI;refine A6 ?_;refine Aa8 ?_;refine Aaa ?_;exact E8 (Marks.cons .here .nil) (res1 rfl rfl) rsubZ selZ ⟨rfl,rfl⟩
 ·rintro bm cc o' hf
  exact hf.elim
theorem dur0_spec (c:Ct) (s:Int) (hc:chkCt c=0) (hs:1≤s∧s≤65536):Ans Tryz.prog (fv 145) [.agg #[int c.f,int c.t,int c.s,int c.e,int c.r,int c.g,int c.l],int s] [] (fun r=>r=int (durC c s)):=by
 have hbd:=durC_bd hc hs
 obtain ⟨hfr,htr,hr,hg,hl⟩:=okCt_of hc
 have hps:=pass_spec c s hr hs
 have htk:=ticks_spec c 16 hr (by omega)
 have hm:0≤c.l*(2*c.g+1+tickC c 16)∧c.l*(2*c.g+1+tickC c 16)≤40000000:=by
  have:=tickC_bd (c:=c) (n:=16) hr.1 (by omega)
  exact ⟨Int.mul_nonneg hl.1 (by omega),by unfold durC at hbd; omega⟩
 have ht:=tickC_bd (c:=c) (n:=16) hr.1 (by omega)
 unfold durC at hbd ⊢
 refine spec_in (cap:=[]) Tryz.func145 rfl rfl Tryz.ntmps145 rfl envZ (fun N β=>?_)
 refine Aa ?_;refine BH (BI rfl) rfl rfl rfl ?_;rintro _ _ ⟨b2,rfl,rfl⟩;refine AQ (ρ:=sng b2 _) takeZ ?_
 have cb:=rdB b2 61 [int c.f,int c.t,int c.s,int c.e,int c.r,int c.g,int c.l]
 have f5:=rdC cb 5
 have f6:=rdC cb 6
 refine Aaj ?_
 refine BD (.q 0 (.q 1 (.q 3 (.q 4 (.q 5 (.q 6 (.q 7 (.q 8 (.q 9 (.l 2 .e (.l 10 .e (.q 11 (.q 12 (.q 13 (.q 14 .nil))))))))))))))) [] rfl (by kernel_rfl) selZ ?_
 refine A8 ?_;refine AM ?_;refine Abf ?_;refine EX ?_;refine C1 ?_;refine A8 ?_;refine B4 (BP rfl hps rfl rfl rdZ rfl rfl ?_);rintro _ rfl
 skip
 refine B4 (BP rfl htk rfl rfl rdZ rfl rfl ?_);rintro _ rfl;refine C1 ?_;refine EX ?_;refine C1 ?_;refine Acr ?_
 skip
 exact A3 ⟨rfl,rfl⟩
theorem chk98_spec (c:Ct) (s:Int) (hc:chkCt c=0) (hs:1≤s∧s≤65536):Ans Tryz.prog (fv 144) [.agg #[int c.f,int c.t,int c.s,int c.e,int c.r,int c.g,int c.l],int s] [] (fun r=>r=int 0):=by
 have hck:=ctCheck_spec c
 rw [hc] at hck
 refine spec_in (cap:=[]) Tryz.func144 rfl rfl Tryz.ntmps144 rfl envZ (fun N β=>?_)
 refine Aa ?_;refine BH (BI rfl) rfl rfl rfl ?_;rintro _ _ ⟨b2,rfl,rfl⟩;refine AQ (ρ:=sng b2 _) takeZ ?_
 have cb:=rdB b2 61 [int c.f,int c.t,int c.s,int c.e,int c.r,int c.g,int c.l]
 refine Adg ?_;refine AZ hck rfl rfl rdZ rfl rfl ?_;rintro _ rfl;refine BO ?_;refine Ab6 ?_;refine AZ (within_spec s 1 65536) rfl rfl rdZ rfl rfl ?_;rintro _ (⟨rfl,h⟩|⟨rfl,h⟩)
 ·refine B6 ?_
  refine Aai ?_;refine Aaq ?_;exact A3 ⟨rfl,rfl⟩
 ·omega
theorem dur_spec (c:Ct) (s:Int) (hc:chkCt c=0) (hs:1≤s∧s≤65536):Ans Tryz.prog (fv 73) [.agg #[int c.f,int c.t,int c.s,int c.e,int c.r,int c.g,int c.l],int s] [] (fun r=>r=.tuple #[int (durC c s),int 0]):=by
 have hck:=chk98_spec c s hc hs
 have hdu:=dur0_spec c s hc hs
 refine spec_in (cap:=[]) Tryz.func73 rfl rfl Tryz.ntmps73 rfl envZ (fun N β=>?_)
 refine Aa ?_;refine BH (BI rfl) rfl rfl rfl ?_;rintro _ _ ⟨b2,rfl,rfl⟩;refine AQ (ρ:=sng b2 _) takeZ ?_
 have cb:=rdB b2 61 [int c.f,int c.t,int c.s,int c.e,int c.r,int c.g,int c.l]
 refine Ace ?_;refine Aas ?_;refine AB ?_;refine AZ hck rfl rfl rdZ rfl rfl ?_;rintro _ rfl;refine Acx ?_;refine Aai ?_;refine Aas ?_;refine AB ?_;refine AZ hdu rfl rfl rdZ rfl rfl ?_;rintro _ rfl;refine Ab ?_;exact AT (res2 rfl rfl rfl) rsubZ selZ ⟨rfl,rfl⟩
end Go.Proofs.YtglifndogffmkaaGreat
namespace Go.Eng
variable {C:Cx} {D:List Deferred} {R Hf H:List PH} {L:Env} {K:List It} {ps ls:List Nat}
def isMv (all:Array Oper) (j:Nat):Bool:=match all[j]? with
  | some ⟨_,.move _,_,_,_,_⟩=>true
  | _=>false
theorem isMv_op {all:Array Oper} {j:Nat} {o:Oper} (h:isMv all j=true) (ho:all[j]?=some o):∃ x,o.op=.move x:=by
  unfold isMv at h;rw [ho] at h
  obtain ⟨d,op,a,b,c,e⟩:=o
  cases op <;> first|exact ⟨_,rfl⟩|(exfalso; simp at h)
theorem Prom.mv {all:Array Oper} {o:Oper} {v:Value} {H':List PH} (h:Prom C R H L all o v) {x:Operand} (hx:o.op=.move x) {w0:World} (hs:Sat C.N R H w0):Prom C R H' L all o v:=by
  rcases h with ⟨h1,h2⟩|h
  · refine .inl ⟨h1,h2.nd,fun a w hon _=>?_⟩
    have:=h2.run a w0 hon hs
    simp only [execOp,hx] at this ⊢
    simpa using this
  · exact .inr h
theorem GF {all:Array Oper} {done:List Nat} {i:Nat} {rest:Pl} {o:Oper} {post:Value→List PH→Prop} {L':Value→Env} {Hf':List PH} (ho:all[i]?=some o) (hl:Loud C R H L o post) (hg:wantE all L o=some true)
    (hL:(∃ d,o.dst=some d∧Nat.blt d C.M=true∧L'=fun v=>(d,v)::L)∨(o.dst=none∧L'=fun _=>L))
    (hfull:((done.all fun j=>isMv all j || (closeP all (all.size*all.size) (predsOf all i ++ ls) []).contains j) && ls.all (fun j=>Nat.blt j all.size))=true)
    (hsub:∀ v H',post v H'→∀ w,Sat C.N R H' w→Sat C.N R Hf' w)
    (h:∀ v H',post v H'→DJ C D R Hf' H' (L' v) all (i::done) ps (i::ls) rest K):ActOK C D R Hf H L all done ps ls i .b rest K:=by
  intro hlo hpl hrd fuel listed a w hinv hm
  simp only [loudOK] at hlo
  obtain ⟨k1,k2,k3⟩:=mem_readyL.1 hrd
  have hms:i<listed.size:=by rw [hinv.size]; exact k1
  have hrdy:=(mem_ready.1 hm).2.2
  have bnd:∀ j,listed.getD j false=true→j<all.size∧isL listed j:=fun j hlj=>by
    have hjs:j<all.size:=by
      rw [← hinv.size]
      cases hb:listed[j]? with
      | none=>simp [Array.getD_eq_getD_getElem?,hb] at hlj
      | some b=>exact (Array.getElem?_eq_some_iff.1 hb).1
    exact ⟨hjs,(getD_isL hinv.size hjs).1 hlj⟩
  have hall:∀ j∈done,isL listed j∨isMv all j=true:=fun j hj=>by
    rw [Bool.and_eq_true,List.all_eq_true,List.all_eq_true] at hfull
    have h3:=hfull.1 j hj
    rw [Bool.or_eq_true] at h3
    rcases h3 with h3|h3
    · exact .inr h3
    refine .inl (close_sub (all:=all) (E:=fun j=>j<all.size∧isL listed j) (fun i hi=>hinv.dc i hi.1 hi.2) _ (predsOf all i ++ ls) [] (fun j hj=>?_) (by simp) j (by simpa using h3)).2
    rcases List.mem_append.1 hj with hj|hj
    · exact bnd j (hrdy j hj)
    · exact ⟨Nat.le_of_ble_eq_true (hfull.2 j hj),hinv.lds j hj⟩
  have hpend:∀ j∈done,¬ isL listed j→ps.contains j=true∧freshOK all [j] i=true∧dataOK all [j] i=true:=fun j hj hnj=>by
    rw [List.all_eq_true] at hlo
    have h3:=hlo j hj
    simp only [Bool.or_eq_true,Bool.and_eq_true] at h3
    rcases h3 with (h3|h3)|⟨⟨h3,h4⟩,h5⟩
    rotate_left
    · exact absurd (hinv.lds j (by simpa using h3)) hnj
    rotate_left
    · exact absurd (close_sub (all:=all) (E:=fun j=>j<all.size∧isL listed j) (fun i hi=>hinv.dc i hi.1 hi.2) _ (predsOf all i) [] (fun j hj=>bnd j (hrdy j hj)) (by simp) j (by simpa using h3)).2 hnj
    · exact ⟨h3,h4,h5⟩
  have hdata:∀ j∈done,¬ isL listed j→∀ d∈dstOf all j,d∉rdsOf all i:=fun j hj hnj d hd hr=>by
    have:=data_of (hpend j hj hnj).2.2 j (by simp) d hd hr
    exact hnj (bnd j (hrdy j this)).2
  have hon:∀ t∈readsOf all o,∀ v,look L t=some v→a.tmps.getD t undef=v:=fun t ht v hv=>by
    rcases hinv.get t v hv with hg'|⟨j,hj,hnj,hjt⟩
    · exact hg'
    · exact absurd (by unfold rdsOf; rw [ho]; exact ht) (hdata j hj hnj t hjt)
  obtain ⟨l1,l2,l3⟩:=hinv.listed hm
  unfold wpOpIn;rw [ho];simp only;rw [if_pos (want_of hg hon)]
  refine hl.run a w (onE_of hon) hinv.sat _ _ (fun v H' w' hp hs'=>(h v H' hp).run hpl _ _ _ _ ?_)
  have back:∀ j∈done,¬ isL (listed.setIfInBounds i true) j→¬ isL listed j:=fun j _ hn hl=>hn ((isL_set hms).2 (.inr hl))
  have cs:∀ j,j∈i::done→¬ isL (listed.setIfInBounds i true) j→j∈done:=fun j hj hn=>by
    simp at hj
    rcases hj with rfl|hj
    · exact absurd ((isL_set hms).2 (.inl rfl)) hn
    · exact hj
  have hlds:∀ j∈i::ls,isL (listed.setIfInBounds i true) j:=fun j hj=>by
    simp at hj
    rcases hj with rfl|hj
    · exact (isL_set hms).2 (.inl rfl)
    · exact (isL_set hms).2 (.inr (hinv.lds j hj))
  have hfr:∀ j∈done,¬ isL listed j→∀ d∈dstOf all i,d∉rdsOf all j∧d∉dstOf all j:=fun j hj hnj d hd=>(fresh_of (hpend j hj hnj).2.1 hd).2 j (by simp)
  refine ⟨l1,l2,fun j hj hlj=>?_,l3,?_,?_,hs',fun t u hu=>?_,fun j hj hnl=>?_,fun w hw=>hsub v H' hp w hw,hlds,fun j hj hnl k hk d' hd' hr=>?_,fun j hj hnl k hk hkj d' hd'=>?_,⟨k1,k3,hinv.chron⟩⟩
  · rcases (isL_set hms).1 hlj with rfl|hlj
    · simp
    · simp [hinv.sub j hj hlj]
  · have:=hinv.tm
    cases hd:o.dst <;> simpa [Act.put] using this
  · have:=hinv.df
    cases hd:o.dst <;> simpa [Act.put] using this
  · rcases hL with ⟨d,hd,hM,rfl⟩|⟨hd,rfl⟩
    · rw [hd]
      simp only at hu;rw [look_cons] at hu
      by_cases e:d=t
      · subst e
        simp only [if_true,Option.some.injEq] at hu; subst hu
        left
        simp [Act.put,hinv.tm,show d<C.M from Nat.le_of_ble_eq_true hM]
      · rw [if_neg e] at hu
        rcases hinv.get t u hu with hg'|⟨j,hj,hnj,hjt⟩
        · left; simpa [Act.put,Array.getD_eq_getD_getElem?,e] using hg'
        · right
          refine ⟨j,by simp [hj],fun hlj=>?_,hjt⟩
          rcases (isL_set hms).1 hlj with rfl|hlj
          · exact k2 hj
          · exact hnj hlj
    · rw [hd]
      simp only [Act.put] at hu ⊢
      rcases hinv.get t u hu with hg'|⟨j,hj,hnj,hjt⟩
      · exact .inl hg'
      · right
        refine ⟨j,by simp [hj],fun hlj=>?_,hjt⟩
        rcases (isL_set hms).1 hlj with rfl|hlj
        · exact k2 hj
        · exact hnj hlj
  · have hj':=cs j hj hnl
    have hnj:=back j hj' hnl
    have hmv:=(hall j hj').resolve_left hnj
    obtain ⟨o',d',v',e1,e2,e3,e4,e5⟩:=hinv.prom j hj' hnj
    obtain ⟨x,hx⟩:=isMv_op hmv e1
    rw [(hpend j hj' hnj).1,if_pos rfl] at e5 ⊢
    have e6:Prom C R Hf' L all o' v':=e5.mv hx (hinv.hf w hinv.sat)
    rcases hL with ⟨d,hd,hM,rfl⟩|⟨hd,rfl⟩
    · have hdi:d∈dstOf all i:=by unfold dstOf; rw [ho]; simp [hd]
      obtain ⟨f1,f2⟩:=hfr j hj' hnj d hdi
      have hne:d≠d':=fun e=>f2 (by unfold dstOf; rw [e1]; simp [e2,e])
      refine ⟨o',d',v',e1,e2,e3,by rw [look_cons,if_neg hne]; exact e4,e6.cons ?_⟩
      unfold rdsOf at f1; rw [e1] at f1; exact f1
    · exact ⟨o',d',v',e1,e2,e3,e4,e6⟩
  · have hj':=cs j hj hnl
    by_cases ek:k=i
    · subst ek
      exact absurd hr (hfr j hj' (back j hj' hnl) d' hd').1
    · exact hinv.data j hj' (back j hj' hnl) k (by simp at hk; exact hk.resolve_left ek) d' hd' hr
  · have hj':=cs j hj hnl
    by_cases ek:k=i
    · subst ek
      intro hdk
      exact (hfr j hj' (back j hj' hnl) d' hdk).2 hd'
    · exact hinv.uniq j hj' (back j hj' hnl) k (by simp at hk; exact hk.resolve_left ek) hkj d' hd'
end Go.Eng
namespace Go.Proofs.YtglifndogffmkaaGreat
open Go.Eng Go.Step
set_option maxRecDepth 100000
set_option maxHeartbeats 64000000
theorem chkPl_ct {qs:List Int} {cs:List Ct} (h:chkPl qs cs=0):cs.length≤64∧∀ c∈cs,chkCt c=0∧c.f<qs.length∧c.t<qs.length:=by
 unfold chkPl at h
 by_cases h1:qs.length<1∨16<qs.length∨64<cs.length
 ·rw [if_pos h1] at h; omega
 rw [if_neg h1] at h
 by_cases h2:firstE (quoE qs) qs.length=0
 ·rw [if_neg (by simpa using h2)] at h
  refine ⟨by omega,fun c hc=>?_⟩
  obtain ⟨i,hi,rfl⟩:=List.getElem_of_mem hc
  have h3:=firstE_zero h i hi
  rw [ctE_at (List.getElem?_eq_getElem hi)] at h3
  by_cases h4:chkCt cs[i]=0
  ·rw [if_neg (by simpa using h4)] at h3
   by_cases h5:(qs.length:Int)≤cs[i].f∨(qs.length:Int)≤cs[i].t
   ·rw [if_pos h5] at h3; omega
   ·exact ⟨h4,by omega,by omega⟩
  ·rw [if_pos h4] at h3; exact absurd h3 h4
 ·rw [if_pos h2] at h; exact absurd h h2
theorem chkCt_all {c:Ct} (h:chkCt c=0):(0≤c.f∧c.f≤15)∧(0≤c.t∧c.t≤15)∧(0≤c.s∧c.s<c.e∧c.e≤1099511627776)∧(1≤c.r∧c.r≤1000)∧(1≤c.g∧c.g≤1048576):=by
 have h2:=chkCt_se h
 unfold chkCt at h
 by_cases h1:okCt c
 ·unfold okCt at h1
  exact ⟨h1.1,h1.2.1,h2,h1.2.2.1,h1.2.2.2.1⟩
 ·rw [if_pos h1] at h; omega
end Go.Proofs.YtglifndogffmkaaGreat
namespace Go.Eng
variable {C:Cx} {R H:List PH} {L:Env} {dst:Option Tmp} {ty:TypeId} {pos:String} {aft:Array Edge} {g:Option (Nat × Bool)}
end Go.Eng
namespace Go.Eng
variable {C:Cx} {R H:List PH} {L:Env}
def placesP (P:Program):List Field→Option (List (Nat × Nat))
  | []=>some []
  | f::fs=>match szP P f.type,placesP P fs with
    | some n,some r=>some ((f.offset,n)::r)
    | _,_=>none
def evalPs (L:Env):List (Nat × Operand)→Option (List (Nat × Value))
  | []=>some []
  | (i,x)::ps=>match evalE L x,evalPs L ps with
    | some v,some r=>some ((i,v)::r)
    | _,_=>none
def fillL (pl:List (Nat × Nat)):List Value→List (Nat × Value)→Option (List Value)
  | zs,[]=>some zs
  | zs,(i,v)::r=>match pl[i]? with
    | none=>none
    | some (off,size)=>if v.cells.size=size∧off+size≤zs.length then fillL pl (zs.take off ++ (v.cells.toList ++ zs.drop (off+size))) r else none
theorem fillL_eq {pl:List (Nat × Nat)}:∀ {pvs:List (Nat × Value)} {zs out:List Value},fillL pl zs pvs=some out→Instr.fill (fun i=>pl[i]?) zs.toArray pvs=some out.toArray
  | [],zs,out,h=>by simp [fillL] at h; subst h; rfl
  | (i,v)::r,zs,out,h=>by
    unfold fillL at h;unfold Instr.fill
    split at h
    · simp at h
    · rename_i off size e
      rw [e]
      split at h
      · rename_i hc
        have ih:=fillL_eq h
        have hs:=splice_fold v.cells.toList 0 off zs.toArray (by simp; omega)
        simp only
        rw [if_neg (by simp; omega)]
        rw [← ih]
        congr 1
        apply Array.ext'
        simpa [← Array.toList_zipIdx,← hc.1] using hs
      · simp at h
theorem evalPs_eq {a:Act}:∀ {ps:List (Nat × Operand)} {pvs:List (Nat × Value)},evalPs L ps=some pvs→(∀ x∈ps.map (·.2),OnE L a x)→ps.map (fun (x:Nat × Operand)=>(x.1,a.eval x.2))=pvs
  | [],pvs,h,_=>by simp [evalPs] at h; subst h; rfl
  | (i,x)::ps,pvs,h,hx=>by
    unfold evalPs at h
    split at h
    · rename_i v r e1 e2
      simp at h; subst h
      rw [List.map_cons,evalPs_eq e2 (fun y hy=>hx y (by simp at hy ⊢; exact .inr hy)),hx x (by simp) v e1]
    · simp at h
theorem placesP_run {P:Program}:∀ (fs:List Field) (pl:List (Nat × Nat)) (w:World),placesP P fs=some pl→(fs.mapM (fun f=>Prod.mk f.offset <$> sizeOf f.type:Field→Sem (Nat × Nat))).run P w=.ok pl w
  | [],pl,w,h=>by simp [placesP] at h; subst h; simp
  | f::fs,pl,w,h=>by
    unfold placesP at h
    split at h
    · rename_i n r e1 e2
      simp at h; subst h
      simp [List.mapM_cons,run_sizeOf e1,placesP_run fs r w e2]
    · simp at h
theorem CT {dst:Option Tmp} {ty:TypeId} {pos:String} {aft:Array Edge} {g:Option (Nat × Bool)} {t:TypeId} {ps:List (Nat × Operand)} {fs:List Field} {pl:List (Nat × Nat)} {pvs:List (Nat × Value)} {zs out:List Value}
    (hu:C.P.underlying t=some (.struct fs.toArray)) (hz:zeroP C.P t=some (.agg zs.toArray)) (hpl:placesP C.P fs=some pl) (hv:evalPs L ps=some pvs) (ho:fillL pl zs pvs=some out) :
    Quiet C R H L ⟨dst,.build t ps.toArray,ty,pos,aft,g⟩ (.agg out.toArray):=
  ⟨by intro c; simp,fun a w hxx _=>by
    have h1:=evalPs_eq (a:=a) hv (fun x hx=>hxx x (by simp [Op.operands] at hx ⊢; exact hx))
    have h2:=placesP_run fs pl w hpl
    have h3:=fillL_eq ho
    simp only [execOp,Instr.build]
    simp [run_zeroValue hz,Value.cells,run_underlying hu,h1,h2,h3]⟩
end Go.Eng
namespace Go.Step
end Go.Step
namespace Go.Eng
open Go.IntWalk
variable {R H:List PH} {L:Env}
end Go.Eng
namespace Go.Eng
variable {L:Env} {R H:List PH}
theorem resS1 {fn:Func} {N:Bs} {M:Nat} {P:Program} {t b1:Nat} {T:TypeId} {v1:List Value} (hr:fn.results = #[.cell t T]) (ht:look L t=some (.pointer (some ⟨b1,0,none⟩))) (a1:aggP P T=some true)
    (n1:szP P T=some v1.length) (c1:Cells N R H b1 0 v1):∀ a w,Frm M L a→Sat N R H w→(results fn a.tmps).run P w=.ok (.agg v1.toArray) w:=by
  intro a w hf hs
  have e1:a.tmps[t]?.getD undef=.pointer (some ⟨b1,0,none⟩):=by simpa using hf.get t _ ht
  have l1:=run_loadCells_list (P:=P) (w:=w) ⟨b1,0,none⟩ v1 (fun j v hv=>by rw [Addr.add_lit]; exact c1 w hs j v hv)
  simp [results,hr,e1,loadVar,run_isAgg a1,run_sizeOf n1,l1,asAddr]
theorem resSE {fn:Func} {N:Bs} {M:Nat} {P:Program} {t u b1:Nat} {T:TypeId} {v1:List Value} {v2:Value} (hr:fn.results = #[.cell t T,.tmp u]) (ht:look L t=some (.pointer (some ⟨b1,0,none⟩))) (hu:look L u=some v2) (a1:aggP P T=some true)
    (n1:szP P T=some v1.length) (c1:Cells N R H b1 0 v1):∀ a w,Frm M L a→Sat N R H w→(results fn a.tmps).run P w=.ok (.tuple #[.agg v1.toArray,v2]) w:=by
  intro a w hf hs
  have e1:a.tmps[t]?.getD undef=.pointer (some ⟨b1,0,none⟩):=by simpa using hf.get t _ ht
  have e2:a.tmps[u]?.getD undef=v2:=by simpa using hf.get u _ hu
  have l1:=run_loadCells_list (P:=P) (w:=w) ⟨b1,0,none⟩ v1 (fun j v hv=>by rw [Addr.add_lit]; exact c1 w hs j v hv)
  simp [results,hr,e1,e2,loadVar,run_isAgg a1,run_sizeOf n1,l1,asAddr]
end Go.Eng
namespace Go.Proofs.YtglifndogffmkaaGreat
open Go.Eng Go.Step
set_option maxRecDepth 100000
set_option maxHeartbeats 64000000
def encL (x:Lb):List Value:=[int x.n,int x.f,int x.t,int x.a]
def encHp (h:Hp):List Value:=[int h.c,int h.b,int h.e,int h.a]
theorem encL_len (x:Lb):(encL x).length=4:=rfl
theorem encHp_len (x:Hp):(encHp x).length=4:=rfl
def SpsAt (γ:PH) (p:Option Addr) (L:List (List (Int × Int))):Prop:=∀ i l,L[i]?=some l→∃ b o q k,p=some ⟨b,o,none⟩∧rdc γ b (o+i)=some (.slice q l.length k)∧SlE encS 2 γ (.slice q l.length k) l
structure GA where
 b:Nat
 pq:Option Addr
 nq:Nat
 kq:Nat
 pc:Option Addr
 kc:Nat
 pg:Option Addr
 kg:Nat
 pr:Option Addr
 kr:Nat
 pd:Option Addr
 kd:Nat
structure GrAt (γ τ:PH) (A:GA) (G:Gr):Prop where
 qv:rdc γ A.b 0=some (.slice A.pq A.nq A.kq)
 nq:A.nq=G.rooms.length
 cv:rdc γ A.b 1=some (.slice A.pc G.cs.length A.kc)
 src:rdc γ A.b 4=some (int G.q.src)
 dst:rdc γ A.b 5=some (int G.q.dst)
 rdy:rdc γ A.b 7=some (int G.q.rdy)
 dln:rdc γ A.b 8=some (int G.q.dln)
 cus:rdc γ A.b 10=some (.bool G.q.cus)
 gv:rdc γ A.b 11=some (.slice A.pg G.gaps.length A.kg)
 rv:rdc γ A.b 12=some (.slice A.pr G.rooms.length A.kr)
 dv:rdc γ A.b 13=some (.slice A.pd G.dur.length A.kd)
 hc:RowsE encC 7 τ A.pc G.cs
 gaps:SpsAt γ A.pg G.gaps
 rooms:SpsAt γ A.pr G.rooms
 durs:RowsE Eng.encI 1 γ A.pd G.dur
abbrev gp (A:GA):Value:=.pointer (some ⟨A.b,0,none⟩)
theorem getD_at {α:Type} {l:List α} {i:Nat} {x d:α} (h:l[i]?=some x):l.getD i d=x:=by simp [List.getD_eq_getElem?_getD,h]
theorem leave_spec {γ τ:PH} {A:GA} {G:Gr} (hG:GrAt γ τ A G) (hg:GOK G) {i:Nat} {c:Ct} (hi:G.cs[i]?=some c) (h:Hp) (hc:h.c=i) (he:0≤h.e∧h.e≤9007199254740992) :
  Ans Tryz.prog (fv 152) [gp A,.agg (encHp h).toArray] [γ,τ] (fun r=>r=int (leaveR G c h)):=by
 obtain ⟨bA,pq,nq,kq,pc,kc,pg,kg,pr,kr,pd,kd⟩:=A
 obtain ⟨qv,hnq,cv,src,dst,rdy,dln,cus,gv,rv,dv,hcs,gaps,rooms,durs⟩:=hG
 dsimp only at qv hnq cv src dst rdy dln cus gv rv dv hcs gaps rooms durs ⊢
 obtain ⟨bq,oq,rfl,hrd⟩:=ctRow hcs hi
 have g5:rdc τ bq (oq+i*7+5)=some (int c.g):=hrd.get (j:=5) rfl
 have hil:=(List.getElem?_eq_some_iff.1 hi).1
 have hlc:=hg.lc
 have hck:=chkCt_all (hg.cs c (List.mem_of_getElem? hi)).1
 have hgg:1≤c.g∧c.g≤1048576:=hck.2.2.2.2
 obtain ⟨hc0,hb0,he0,ha0⟩:=h
 dsimp only at hc he
 subst hc;unfold leaveR
 have hgen:∀ q,G.q.cus=q→Ans Tryz.prog (fv 152) [.pointer (some ⟨bA,0,none⟩),.agg #[int (i:Int),int hb0,int he0,int ha0]] [γ,τ] (fun r=>r=int (if q then he0+2*c.g else he0)):=by
  intro q hq
  rw [hq] at cus
  refine spec_in (cap:=[]) Tryz.func152 rfl rfl Tryz.ntmps152 rfl envZ (fun N β=>?_)
  cases q with
  | true =>
   refine Aa ?_;refine BU ?_; rintro _ _ ⟨b,rfl,rfl⟩;refine Aa4 ?_;refine BT ?_;refine AG ?_;refine EG ?_;refine AF ?_;refine Aah ?_;refine AC ?_
   refine BD (.q 0 (.q 1 (.q 2 (.q 3 (.q 4 (.q 5 (.q 6 (.q 7 (.q 8 (.q 9 (.q 10 (.q 11 (.q 12 (.q 13 (.q 14 (.q 15 .nil)))))))))))))))) [] rfl (by kernel_rfl) selZ ?_
   refine Aak ?_;refine AM ?_;refine Abs ?_;refine AS ?_;refine Abf ?_;refine BB ?_;refine Abr ?_;refine EX ?_;refine C1 ?_;refine Acr ?_
   skip
   exact A3 ⟨rfl,rfl⟩
  | false =>
   refine Aa ?_;refine BU ?_; rintro _ _ ⟨b,rfl,rfl⟩;refine Aa4 ?_;refine BT ?_;refine AG ?_;refine EG ?_;refine AF ?_;refine Aai ?_;refine Aan ?_;refine Aaa ?_;exact A3 ⟨rfl,rfl⟩
 exact hgen _ rfl
theorem roomsOf_spec {γ τ:PH} {A:GA} {G:Gr} (hG:GrAt γ τ A G) (hg:GOK G) (n:Int) (hn:0≤n∧n<G.rooms.length) :
  Gives Tryz.prog (fv 150) [gp A,int n] [γ] (fun r ρ=>SlE encS 2 ρ r (roomsR G n)):=by
 obtain ⟨bA,pq,nq,kq,pc,kc,pg,kg,pr,kr,pd,kd⟩:=A
 obtain ⟨qv,hnq,cv,src,dst,rdy,dln,cus,gv,rv,dv,hcs,gaps,rooms,durs⟩:=hG
 dsimp only at qv hnq cv src dst rdy dln cus gv rv dv hcs gaps rooms durs ⊢
 unfold roomsR
 obtain ⟨m,rfl⟩:=Int.eq_ofNat_of_zero_le hn.1
 refine spec_in (cap:=[]) Tryz.func150 rfl rfl Tryz.ntmps150 rfl envZ (fun N β=>?_)
 by_cases h:(m:Int)=G.q.dst
 ·rw [if_pos h]
  refine Aa ?_;refine Aaj ?_;refine Aag ?_;refine BT ?_;refine AG ?_;refine EG ?_;refine AF ?_;refine CO ?_;refine Acf ?_;refine B0 ?_;refine BQ ?_; rintro _ _ ⟨b,rfl,rfl⟩;refine Aaa ?_;exact AT (res1 rfl rfl) rsubZ selZ ⟨_,slE_sng (l:=[((0:Int),1099511627776)]) encS_len,.inl rfl⟩
 ·rw [if_neg h]
  have hlt:m<G.rooms.length:=by omega
  rw [Int.toNat_natCast]
  have hx:=List.getElem?_eq_getElem hlt
  obtain ⟨b1,o1,q1,k1,rfl,h1,h2⟩:=rooms _ _ hx
  rw [getD_at hx];refine Aa ?_;refine Aaj ?_;refine Aag ?_;refine BT ?_;refine AG ?_;refine EG ?_;refine AF ?_;refine Ad ?_;refine Aab ?_;refine BT ?_;refine Aae ?_;refine AB ?_;refine Ac7 ?_;refine Aaa ?_
  exact AT (res1 rfl rfl) rsubZ selZ ⟨γ,h2,.inr ⟨rfl,by simp⟩⟩
theorem hop_spec {γ τ:PH} {A:GA} {G:Gr} (hG:GrAt γ τ A G) (hg:GOK G) {i:Nat} {c:Ct} (hi:G.cs[i]?=some c) (fr:Int) (hfr:0≤fr∧fr≤2199023255552) :
  Ans Tryz.prog (fv 151) [gp A,int (i:Int),int fr] [γ,τ] (fun r=>r=.tuple #[.agg (encHp ((hopR G i c fr).getD ⟨0,0,0,0⟩)).toArray,.bool (hopR G i c fr).isSome]):=by
 obtain ⟨bA,pq,nq,kq,pc,kc,pg,kg,pr,kr,pd,kd⟩:=A
 obtain ⟨qv,hnq,cv,src,dst,rdy,dln,cus,gv,rv,dv,hcs,gaps,rooms,durs⟩:=hG
 dsimp only at qv hnq cv src dst rdy dln cus gv rv dv hcs gaps rooms durs ⊢
 obtain ⟨bq,oq,rfl,hrd⟩:=ctRow hcs hi
 have g5:rdc τ bq (oq+i*7+5)=some (int c.g):=hrd.get (j:=5) rfl
 have hil:=(List.getElem?_eq_some_iff.1 hi).1
 have hlc:=hg.lc
 have hgl:=hg.gl
 have hdl:=hg.dl
 have hck:=chkCt_all (hg.cs c (List.mem_of_getElem? hi)).1
 have hgg:1≤c.g∧c.g≤1048576:=hck.2.2.2.2
 obtain ⟨L,hL⟩:∃ L,G.gaps[i]?=some L:=⟨_,List.getElem?_eq_getElem (by omega)⟩
 obtain ⟨d,hd⟩:∃ d,G.dur[i]?=some d:=⟨_,List.getElem?_eq_getElem (by omega)⟩
 have hdd:=hg.dur d (List.mem_of_getElem? hd)
 have hLL:=hg.gap L (List.mem_of_getElem? hL)
 obtain ⟨bd,od,rfl,hdv⟩:=durs.int hd
 obtain ⟨bg,og,q,k,rfl,hgv,hSp⟩:=gaps i L hL
 obtain ⟨_,_,ew,hrw⟩:=SlE.val (enc:=encS) encS_len hSp
 simp only [Value.slice.injEq] at ew
 obtain ⟨rfl,_,rfl⟩:=ew
 have hres:hopR G i c fr=(hopB fr d L).map fun b=>⟨i,b,b+d,b+d+c.g⟩:=by
  unfold hopR; rw [getD_at hd,getD_at hL]
 rw [hres]
 refine spec_in (cap:=[]) Tryz.func151 rfl rfl Tryz.ntmps151 rfl envZ (fun N β=>?_)
 refine Aa ?_;refine A4 ?_; rintro _ _ ⟨b,rfl,rfl⟩;refine Abo ?_;refine BT ?_;refine Aae ?_;refine AB ?_;refine Ac7 ?_;refine Aa4 ?_;refine BT ?_;refine Aae ?_;refine AB ?_;refine Ac7 ?_;refine Abk ?_
 revert b; intro bR
 refine BF [0,1,2,26,27,7,8,6] (0:Nat) (fun k=>k≤L.length∧hopB fr d L=hopB fr d (L.drop k)) (fun k=>[(28,int k)]) (fun _=>[sng bR (.cells #[int 0,int 0,int 0,int 0] 127 (0,0))]) (fun k=>L.length-k) pickZ ⟨by omega,rfl⟩ covZ selZ ?_
 rintro k ⟨hk,hI⟩
 by_cases hlt:k<L.length
 ·have hx:=List.getElem?_eq_getElem hlt
  have hpp:=hLL.2 _ (List.mem_of_getElem? hx)
  have hsk:=hopB_skip (fr:=fr) (d:=d) hx
  obtain ⟨b6,o6,rfl,hRd6,y0,y1⟩:=spRow hrw hx
  generalize L[k]=y at hx hpp hsk hRd6 y0 y1
  obtain ⟨m,hm⟩:∃ m,max y.1 fr=m:=⟨_,rfl⟩
  have hm0:0≤m∧m≤2199023255552:=by omega
  rw [hm] at hsk
  by_cases hle:m+d≤y.2
  ·rw [if_pos hle] at hsk
   rw [hI,hsk];refine Ab2 ?_;refine A4 ?_; rintro _ _ ⟨b,rfl,rfl⟩;refine AW ?_; rintro _ _ ⟨rfl,rfl⟩;refine Aca ?_;refine AB ?_;refine DB ?_;refine Acu ?_;refine BY ?_;refine Aae ?_;refine ES ?_;refine Aah ?_;refine Aag ?_;refine BY ?_;refine Acu ?_;refine Abi ?_;refine BT ?_;refine AG ?_;refine Ac2 ?_;refine AB ?_;refine BL ?_;refine EG ?_;refine AF ?_;refine BY ?_;refine B0 ?_
   focus ((rw [hm]))
   refine AW ?_; rintro _ _ ⟨rfl,rfl⟩;refine Aaa ?_;exact AT (resSE (b1:=bR) (T:=127) (v1:=[int (i:Int),int m,int (m+d),int (m+d+c.g)]) rfl rfl rfl rfl rfl (cells_own memZ)) rsubZ selZ ⟨rfl,rfl⟩
  ·rw [if_neg hle] at hsk
   refine Ab2 ?_;refine A4 ?_; rintro _ _ ⟨b,rfl,rfl⟩;refine AW ?_; rintro _ _ ⟨rfl,rfl⟩;refine Aca ?_;refine AB ?_;refine DB ?_;refine Acu ?_;refine BY ?_;refine Aae ?_;refine DA ?_;refine Acg ?_
   focus ((rw [hm]))
   refine AY (k+1) ⟨by omega,by rw [hI,hsk]⟩ (by omega) covZ selZ
 ·have hke:k=L.length:=by omega
  subst hke;rw [hI,List.drop_length];refine Abl ?_;refine Aa ?_;refine B0 ?_;refine AW ?_; rintro _ _ ⟨rfl,rfl⟩;refine Aaa ?_;exact AT (resSE (b1:=bR) (T:=127) (v1:=[int 0,int 0,int 0,int 0]) rfl rfl rfl rfl rfl (cells_own memZ)) rsubZ selZ ⟨rfl,rfl⟩
end Go.Proofs.YtglifndogffmkaaGreat
