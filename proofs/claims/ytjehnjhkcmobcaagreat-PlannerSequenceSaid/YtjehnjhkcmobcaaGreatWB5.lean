/- Texts of this proof, one after the other; no conditions. -/
import Derived.Lib.AppendZerosOnto
import Derived.Lib.Overlaps
import Derived.Test.YtjehnjhkcmobcaaGreatRows
import Derived.WideKeyRuns
import Derived.Test.YtjehnjhkcmobcaaGreatWB4
import Derived.Test.YtjehnjhkcmobcaaGreatWB3
import Derived.Test.YtjehnjhkcmobcaaGreatWB2
import Derived.Test.YtjehnjhkcmobcaaGreatWB1
set_option linter.all false
/- What is wrong with holds, of the program. -/
namespace Go.Proofs.YtjehnjhkcmobcaaGreat
open Go.Eng Go.Step
set_option maxRecDepth 100000
set_option maxHeartbeats 4000000

theorem chkPl_quo {qs:List Int} {cs:List Ct} (h:chkPl qs cs = 0):(1 ≤ qs.length ∧ qs.length ≤ 16) ∧ ∀ (j:Nat) (q:Int),qs[j]? = some q → 0 ≤ q ∧ q ≤ 1073741824:=by
 unfold chkPl at h
 split at h
 ·omega
 ·rename_i hl
  split at h
  ·rename_i h2; exact absurd h h2
  ·rename_i h2
   have h3:firstE (quoE qs) qs.length = 0:=Decidable.not_not.1 h2
   refine ⟨by omega,fun j q hj=>?_⟩
   have:=firstE_zero h3 j (List.getElem?_eq_some_iff.1 hj).1
   rw [quoE_at hj] at this
   split at this <;> omega
theorem fit_all {qs:List Int} {l:List Hd} (hok:∀ h ∈ l,okHd qs.length h) (hq:∀ (j:Nat) (q:Int),qs[j]? = some q → 0 ≤ q ∧ q ≤ 1073741824) (H:∀ (j:Nat) (q:Int),qs[j]? = some q → mostL (lvH l j) ≤ q):fitB qs l = true:=
 List.all_eq_true.2 (fun h hm=>decide_eq_true (by
  have hn:=(hok h hm).1
  obtain ⟨nn,hnn⟩:=Int.eq_ofNat_of_zero_le hn.1
  have hx:=List.getElem?_eq_getElem (show nn < qs.length by omega)
  have:=(most_fits hok (hq nn _ hx).1).1 (H nn _ hx) h hm hnn
  rw [hnn,Int.toNat_natCast,List.getD_eq_getElem?_getD,hx]
  exact this))
theorem fit_bad {qs:List Int} {l:List Hd} (hok:∀ h ∈ l,okHd qs.length h) {j:Nat} {q:Int} (hj:qs[j]? = some q) (hq:0 ≤ q) (H:q < mostL (lvH l j)):fitB qs l = false:=by
 cases hf:fitB qs l with
 | false=>rfl
 | true =>
  exfalso
  have:mostL (lvH l j) ≤ q:=(most_fits hok hq).2 (fun h hm hn=>by
   have:=of_decide_eq_true (List.all_eq_true.1 hf h hm)
   rw [hn,Int.toNat_natCast,List.getD_eq_getElem?_getD,hj] at this
   exact this)
  omega
theorem lvH_len (l:List Hd) (n:Int):(lvH l n).length ≤ 2 * l.length:=by
 have:=comb_len (Step.stored l n) (hts l n) 0
 have:=hts_len2 l n
 unfold lvH; omega
set_option maxHeartbeats 16000000 in
theorem check28_spec (ρ τ σ:PH) (pq pc:Option Addr) (kq kc:Nat) (qs:List Int) (cs:List Ct) (v:Value) (l:List Hd) (hq:IntsAt ρ (.slice pq qs.length kq) qs) (hc:CtAt τ (.slice pc cs.length kc) cs) (hcap:cs.length ≤ kc) (lq:qs.length ≤ 9223372036854775807) (lc:cs.length ≤ 9223372036854775807) (hv:HdAt σ v l) (hl:l.length ≤ 9223372036854775807) :
  Ans Tryz.prog (fv 43) [.agg #[.slice pq qs.length kq,.slice pc cs.length kc],v] [ρ,τ,σ] (fun r=>r = int (chkH qs cs l)):=by
 have hv2:=hv
 obtain ⟨q,c,rfl,hr⟩:=hv.val encH_len
 obtain ⟨_,_,e,hrq⟩:=hq.val Eng.encI_len
 simp only [Value.slice.injEq] at e
 obtain ⟨rfl,_,rfl⟩:=e
 refine spec_in (cap:=[]) Tryz.func43 rfl rfl Tryz.ntmps43 rfl envZ (fun N β=>?_)
 refine Aa ?_;refine BH (BM rfl) rfl rfl rfl ?_;rintro _ _ ⟨b1,rfl,rfl⟩;refine AT (ρ:=sng b1 _) takeZ ?_
 have c1:RdN (sng b1 (.cells #[.slice pq qs.length kq,.slice pc cs.length kc] 25 (0,0))) b1 0 [.slice pq qs.length kq,.slice pc cs.length kc]:=fun j u hu=>by rw [rdc_sng,Nat.zero_add]; simpa using hu
 have c10:rdc (sng b1 (.cells #[.slice pq qs.length kq,.slice pc cs.length kc] 25 (0,0))) b1 0 = some (.slice pq qs.length kq):=by rw [rdc_sng]; rfl
 refine Abi ?_;refine Abp ?_;refine A3 (planCheck_spec ρ τ pq pc kq kc qs cs hq hc hcap lq lc) rfl rfl rdZ rfl rfl ?_;rintro _ rfl;unfold chkH
 by_cases hp:chkPl qs cs = 0
 rotate_left
 ·rw [if_pos hp]
  generalize chkPl qs cs = z at hp
  refine CK ?_;refine Aa4 ?_;exact AI (res1 rfl rfl) rsubZ selZ ⟨rfl,rfl⟩
 obtain ⟨hql,hquo⟩:=chkPl_quo hp
 rw [if_neg (fun h=>h hp),hp]
 by_cases hbig:512 < l.length
 ·rw [if_pos hbig]
  refine Abb ?_;refine Ab ?_;refine CQ ?_;refine Aa4 ?_;exact AI (res1 rfl rfl) rsubZ selZ ⟨rfl,rfl⟩
 rw [if_neg hbig];refine Abb ?_;refine Ab ?_;refine B0 ?_;refine Aaj ?_;refine Abt ?_
 refine BA [1,2,15,16] (0:Nat) (fun k=>k ≤ l.length ∧ firstE (hdE qs.length l) k = 0) (fun k=>[(17,int k)]) (fun _=>[]) (fun k=>l.length - k) pickZ ⟨by omega,rfl⟩ covZ selZ ?_
 rintro k ⟨hk,hI⟩
 by_cases hlt:k < l.length
 ·have hx:=List.getElem?_eq_getElem hlt
  obtain ⟨b2,o2,rfl,hrd,_⟩:=hdRow5 hr hx
  have hE:=hdE_at (nq:=qs.length) hx
  generalize l[k] = h at hrd hE
  have hva:=valid28_spec (.slice pq qs.length kq) (.slice pc cs.length kc) ρ qs kq pq h rfl rfl
  refine Ado ?_;refine AY ?_; rintro _ _ ⟨b,rfl,rfl⟩;refine AD ?_;refine AU ?_; rintro _ _ ⟨rfl,rfl⟩;refine Aal ?_;refine Ace ?_
  revert b; intro b6
  refine A3 hva rfl rfl rdZ rfl rfl ?_;rintro _ rfl
  by_cases hok:okHd qs.length h
  rotate_left
  ·rw [if_pos hok] at hE
   have hh:=firstE_hit hI (by rw [hE]; decide) _ hlt
   rw [if_pos (by rw [hh,hE]; decide),hh,hE,decide_eq_false hok]
   refine BE ?_;refine Aa4 ?_;exact AI (res1 rfl rfl) rsubZ selZ ⟨rfl,rfl⟩
  rw [if_neg (fun hh=>hh hok)] at hE
  rw [decide_eq_true hok];refine Acb ?_;refine AC ?_
  by_cases h0:k = 0
  ·subst h0
   rw [if_neg (by omega)] at hE
   refine A8 (.q 0 (.q 1 (.q 2 (.q 3 (.q 4 (.q 5 (.q 6 (.q 7 (.q 8 (.q 9 (.q 10 (.q 11 .nil)))))))))))) [sng b6 _] rfl (by kernel_rfl) selZ ?_
   refine AQ ?_;refine DO ?_;refine Adq ?_;refine BZ ?_;refine Aex ?_
   exact AX (0 + 1) ⟨by omega,firstE_ok hI hE⟩ (by omega) covZ selZ
  ·have hlt':k - 1 < l.length:=by omega
   have hx':=List.getElem?_eq_getElem hlt'
   obtain ⟨_,_,e,hrd',_⟩:=hdRow5 hr hx'
   simp only [Option.some.injEq,Addr.mk.injEq,and_true] at e
   obtain ⟨rfl,rfl⟩:=e
   rw [List.getD_eq_getElem?_getD,hx',Option.getD_some] at hE
   generalize l[k - 1] = g at hrd' hE
   have hle:=compare_spec g h
   generalize cmpHd g h = z at hle hE
   refine A8 (.q 0 (.q 1 (.q 2 (.q 3 (.q 4 (.q 5 (.q 6 (.q 7 (.q 8 (.l 9 .e (.q 10 (.q 11 .nil)))))))))))) [sng b6 _] rfl (by kernel_rfl) selZ ?_
   refine AQ ?_;refine DW ?_;refine Adv ?_;refine Acd ?_;refine BQ ?_;refine BQ ?_;refine B7 (CC rfl hle rfl rfl rdZ rfl rfl ?_);rintro _ rfl
   by_cases hc9:0 < z
   ·rw [if_pos (by omega)] at hE
    have hh:=firstE_hit hI (by rw [hE]; decide) _ hlt
    rw [if_pos (by rw [hh,hE]; decide),hh,hE]
    refine DW ?_;refine BV ?_;refine Add ?_;exact AI (res1 rfl rfl) rsubZ selZ ⟨rfl,rfl⟩
   ·rw [if_neg (by omega)] at hE
    refine DO ?_;refine BV ?_;refine Aex ?_
    exact AX (k + 1) ⟨by omega,firstE_ok hI hE⟩ (by omega) covZ selZ
 have hke:k = l.length:=by omega
 subst hke
 have hok:=hdE_ok hI
 rw [List.take_length] at hok
 rw [if_neg (by rw [hI]; simp)]
 clear hI hk hlt;refine Abl ?_;refine Ac8 ?_;refine Ada ?_
 refine BA [1,40,41] (0:Nat) (fun k=>k ≤ qs.length ∧ ∀ (j:Nat) (q:Int),j < k → qs[j]? = some q → mostL (lvH l j) ≤ q) (fun k=>[(42,int k)]) (fun _=>[]) (fun k=>qs.length - k) pickZ ⟨by omega,fun j q h=>by omega⟩ covZ selZ ?_
 rintro k ⟨hk,hI⟩
 by_cases hlt:k < qs.length
 ·have hx:=List.getElem?_eq_getElem hlt
  obtain ⟨b2,o2,rfl,g1⟩:=hrq.int hx
  have hq0:=hquo k _ hx
  have hbad:=@fit_bad qs l hok k _ hx hq0.1
  have hnext:mostL (lvH l k) ≤ qs[k] → ∀ (j:Nat) (q:Int),j < k + 1 → qs[j]? = some q → mostL (lvH l j) ≤ q:=fun hle j q hj hjq=>by
   by_cases e:j = k
   ·subst e; rw [hx] at hjq; injection hjq with hjq; rw [← hjq]; exact hle
   ·exact hI j q (by omega) hjq
  generalize qs[k] = qv at g1 hbad hnext
  refine Ab3 ?_;refine Abx ?_;refine Aan ?_;refine Abn ?_
  refine CB (levels_spec σ _ l k qs.length hv2 hok (by omega)) rfl rfl rdZ rfl rfl ?_
  rintro ul σl hOl
  have hL:LvAt σl ul (lvH l k):=hOl.at
  have hll:=lvH_len l k
  refine A3 (most_spec σl ul (lvH l k) hL (by omega)) rfl rfl rdZ rfl rfl ?_
  rintro _ rfl
  generalize mostL (lvH l k) = mv at hbad hnext
  by_cases hcq:qv < mv
  ·rw [hbad hcq]
   refine AB ?_;refine CQ ?_;refine Aa4 ?_;exact AI (res1 rfl rfl) rsubZ selZ ⟨rfl,rfl⟩
  ·have hn2:=hnext (by omega)
   refine AB ?_;refine B0 ?_;refine Ac5 ?_
   exact AX (k + 1) ⟨by omega,hn2⟩ (by omega) covZ selZ
 have hke:k = qs.length:=by omega
 subst hke
 rw [fit_all hok hquo (fun j q hj=>hI j q (List.getElem?_eq_some_iff.1 hj).1 hj)]
 refine Abl ?_;refine Aak ?_;exact AI (res1 rfl rfl) rsubZ selZ ⟨rfl,rfl⟩
end Go.Proofs.YtjehnjhkcmobcaaGreat
/- Where a node can store more: two ways to say it. No program in sight. No conditions. -/
namespace Go.Step
def frA (Q s:Int) (st:Int × List (Int × Int)) (t v:Int):Int × List (Int × Int):=
  if Q - v < s then (-1,if 0 ≤ st.1 ∧ st.1 < t then st.2 ++ [(st.1,t)] else st.2) else (if st.1 < 0 then t else st.1,st.2)
def finA (st:Int × List (Int × Int)):List (Int × Int):=if 0 ≤ st.1 ∧ st.1 < 1099511627776 then st.2 ++ [(st.1,1099511627776)] else st.2
def frB (Q s:Int) (st:(Int × Bool) × List (Int × Int)) (x:Lv):(Int × Bool) × List (Int × Int):=
  ((if s ≤ Q - x.v ∧ st.1.2 = false then x.a else st.1.1,decide (s ≤ Q - x.v)),if st.1.2 = true ∧ Q - x.v < s ∧ st.1.1 < x.a then st.2 ++ [(st.1.1,x.a)] else st.2)
def finB (st:(Int × Bool) × List (Int × Int)):List (Int × Int):=if st.1.2 = true ∧ st.1.1 < 1099511627776 then st.2 ++ [(st.1.1,1099511627776)] else st.2
structure RlF (A:Int × List (Int × Int)) (B:(Int × Bool) × List (Int × Int)):Prop where
  o:A.2 = B.2
  p:0 ≤ B.1.1
  f:A.1 = if B.1.2 = true then B.1.1 else -1
theorem RlF.step {Q s:Int} {A:Int × List (Int × Int)} {B:(Int × Bool) × List (Int × Int)} (h:RlF A B) {x:Lv} (h0:0 ≤ x.a):RlF (frA Q s A x.a x.v) (frB Q s B x):=by
  obtain ⟨a1,a2⟩:=A
  obtain ⟨⟨b1,b2⟩,b3⟩:=B
  obtain ⟨h1,h2,h3⟩:=h
  dsimp only at h1 h2 h3
  subst h1;unfold frA frB
  dsimp only
  by_cases hr:Q - x.v < s
  · rw [if_pos hr]
    have hd:decide (s ≤ Q - x.v) = false:=decide_eq_false (by omega)
    cases b2 with
    | true =>
      simp only [if_true] at h3;subst h3;refine ⟨?_,?_,?_⟩
      · dsimp only
        by_cases hl:a1 < x.a
        · rw [if_pos ⟨h2,hl⟩,if_pos ⟨rfl,hr,hl⟩]
        · rw [if_neg (by omega),if_neg (by omega)]
      · dsimp only; rw [if_neg (by simp)]; exact h2
      · dsimp only; rw [hd]; rfl
    | false =>
      have h3':a1 = -1:=by simpa using h3
      subst h3';refine ⟨?_,?_,?_⟩
      · dsimp only
        rw [if_neg (by omega),if_neg (by simp)]
      · dsimp only; rw [if_neg (by omega)]; exact h2
      · dsimp only; rw [hd]; rfl
  · rw [if_neg hr]
    have hd:decide (s ≤ Q - x.v) = true:=decide_eq_true (by omega)
    cases b2 with
    | true =>
      simp only [if_true] at h3;subst h3;refine ⟨?_,?_,?_⟩
      · dsimp only; rw [if_neg (by omega)]
      · dsimp only; rw [if_neg (by simp)]; exact h2
      · dsimp only; rw [hd,if_pos rfl,if_neg (by omega),if_neg (by simp)]
    | false =>
      have h3':a1 = -1:=by simpa using h3
      subst h3';refine ⟨?_,?_,?_⟩
      · dsimp only; rw [if_neg (by simp)]
      · dsimp only; rw [if_pos ⟨by omega,rfl⟩]; exact h0
      · dsimp only; rw [hd,if_pos rfl,if_pos (by omega),if_pos ⟨by omega,rfl⟩]
theorem RlF.last {Q s:Int} {A:Int × List (Int × Int)} {B:(Int × Bool) × List (Int × Int)} (h:RlF A B) {x:Lv} (hx:x.a = 1099511627776):finA A = finB (frB Q s B x):=by
  obtain ⟨a1,a2⟩:=A
  obtain ⟨⟨b1,b2⟩,b3⟩:=B
  obtain ⟨h1,h2,h3⟩:=h
  dsimp only at h1 h2 h3
  subst h1;unfold finA finB frB
  dsimp only
  rw [hx]
  by_cases hr:Q - x.v < s
  · have hd:decide (s ≤ Q - x.v) = false:=decide_eq_false (by omega)
    rw [hd]
    cases b2 with
    | true =>
      simp only [if_true] at h3;subst h3
      by_cases hl:a1 < 1099511627776
      · rw [if_pos ⟨h2,hl⟩,if_neg (by simp),if_pos ⟨rfl,hr,hl⟩]
      · rw [if_neg (by omega),if_neg (by simp),if_neg (by omega)]
    | false =>
      have h3':a1 = -1:=by simpa using h3
      subst h3'
      rw [if_neg (by omega),if_neg (by simp),if_neg (by simp)]
  · have hd:decide (s ≤ Q - x.v) = true:=decide_eq_true (by omega)
    rw [hd]
    cases b2 with
    | true =>
      simp only [if_true] at h3;subst h3
      rw [if_neg (by simp:¬ (s ≤ Q - x.v ∧ true = false)),if_neg (by omega:¬ (true = true ∧ Q - x.v < s ∧ a1 < 1099511627776))]
      by_cases hl:a1 < 1099511627776
      · rw [if_pos ⟨h2,hl⟩,if_pos ⟨rfl,hl⟩]
      · rw [if_neg (by omega),if_neg (by omega)]
    | false =>
      have h3':a1 = -1:=by simpa using h3
      subst h3'
      rw [if_pos (⟨by omega,rfl⟩:s ≤ Q - x.v ∧ false = false),if_neg (by omega),if_neg (by omega),if_neg (by simp)]
end Go.Step
/- A slice's own end appended to its beginning; cells cleared. No conditions. -/
namespace Go.Eng
variable {C:Cx} {D:List Deferred} {R H:List PH} {L:Env} {K:List It}
variable {dst:Option Tmp} {ty:TypeId} {pos:String} {aft:Array Edge} {g:Option (Nat × Bool)}
end Go.Eng
/- Copies into an owned block; zeros appended to a beginning of an owned block that has no room; slices.overlaps of two blocks. No conditions. -/
namespace Go.Eng
variable {C:Cx} {D:List Deferred} {R H:List PH} {L:Env} {K:List It}
variable {dst:Option Tmp} {ty:TypeId} {pos:String} {aft:Array Edge} {g:Option (Nat × Bool)}
end Go.Eng
namespace Go.Eng
def insL {α:Type} (l:List α) (k:Nat) (h:α):List α:=l.take k ++ h :: l.drop k
theorem insL_len {α:Type} (l:List α) (k:Nat) (h:α):(insL l k h).length = l.length + 1:=by
  unfold insL;simp only [List.length_append,List.length_take,List.length_cons,List.length_drop];omega
theorem rdN_sng {b:Nat} {vs:List Value} {t:TypeId} {fr:Nat × Nat}:RdN (sng b (.cells vs.toArray t fr)) b 0 vs:=fun j v hv=>by
  rw [rdc_sng,Nat.zero_add]
  simpa using hv
end Go.Eng
/- One more hold, holds released: plain. No conditions. -/
namespace Go.Step
open Go.Eng
def leH (x y:Hd):Prop:=x.n < y.n ∨ (x.n = y.n ∧ (x.a < y.a ∨ (x.a = y.a ∧ (x.b < y.b ∨ (x.b = y.b ∧ (x.k < y.k ∨ (x.k = y.k ∧ x.s ≤ y.s)))))))
theorem cmpI_cases (a b:Int):(a < b ∧ cmpI a b = -1) ∨ (a = b ∧ cmpI a b = 0) ∨ (b < a ∧ cmpI a b = 1):=by
  unfold cmpI
  by_cases h:a < b
  · exact .inl ⟨h,by rw [if_pos h]⟩
  · by_cases h2:b < a
    · exact .inr (.inr ⟨h2,by rw [if_neg h,if_pos h2]⟩)
    · exact .inr (.inl ⟨by omega,by rw [if_neg h,if_neg h2]⟩)
theorem orI_cmp (a b:Int) (l:List Int):(a < b ∧ orI (cmpI a b :: l) = -1) ∨ (a = b ∧ orI (cmpI a b :: l) = orI l) ∨ (b < a ∧ orI (cmpI a b :: l) = 1):=by
  have e:orI (cmpI a b :: l) = if cmpI a b ≠ 0 then cmpI a b else orI l:=rfl
  rcases cmpI_cases a b with ⟨h1,h2⟩ | ⟨h1,h2⟩ | ⟨h1,h2⟩
  · exact .inl ⟨h1,by rw [e,h2]; rfl⟩
  · exact .inr (.inl ⟨h1,by rw [e,h2]; rfl⟩)
  · exact .inr (.inr ⟨h1,by rw [e,h2]; rfl⟩)
theorem cmpHd_le (x y:Hd):cmpHd x y ≤ 0 ↔ leH x y:=by
  unfold cmpHd leH
  rcases orI_cmp x.n y.n [cmpI x.a y.a,cmpI x.b y.b,cmpI x.k y.k,cmpI x.s y.s] with ⟨h1,e⟩ | ⟨h1,e⟩ | ⟨h1,e⟩
  · rw [e]; omega
  · rw [e]
    rcases orI_cmp x.a y.a [cmpI x.b y.b,cmpI x.k y.k,cmpI x.s y.s] with ⟨h2,e⟩ | ⟨h2,e⟩ | ⟨h2,e⟩
    · rw [e]; omega
    · rw [e]
      rcases orI_cmp x.b y.b [cmpI x.k y.k,cmpI x.s y.s] with ⟨h3,e⟩ | ⟨h3,e⟩ | ⟨h3,e⟩
      · rw [e]; omega
      · rw [e]
        rcases orI_cmp x.k y.k [cmpI x.s y.s] with ⟨h4,e⟩ | ⟨h4,e⟩ | ⟨h4,e⟩
        · rw [e]; omega
        · rw [e]
          rcases orI_cmp x.s y.s [] with ⟨h5,e⟩ | ⟨h5,e⟩ | ⟨h5,e⟩
          · rw [e]; omega
          · rw [e]; simp only [orI]; omega
          · rw [e]; omega
        · rw [e]; omega
      · rw [e]; omega
    · rw [e]; omega
  · rw [e]; omega
theorem cmpHd_trans {x y z:Hd} (h1:cmpHd x y ≤ 0) (h2:cmpHd y z ≤ 0):cmpHd x z ≤ 0:=by
  rw [cmpHd_le] at *;unfold leH at *;omega
theorem cmpHd_anti {x y:Hd} (h:cmpHd x y = 0):x = y:=by
  have h1:=(cmpHd_le x y).1 (by omega)
  have h2:=(cmpHd_le y x).1 (by have:=cmpHd_neg x y; omega)
  unfold leH at *
  obtain ⟨a,b,c,d,e⟩:=x
  obtain ⟨a',b',c',d',e'⟩:=y
  simp only [Hd.mk.injEq] at *;omega
theorem cmpHd_refl (x:Hd):cmpHd x x = 0:=by
  have h:=cmpHd_neg x x
  omega
theorem cmpHd_lt_trans {x y z:Hd} (h1:cmpHd x y ≤ 0) (h2:cmpHd y z < 0):cmpHd x z < 0:=by
  have h3:=cmpHd_trans h1 (by omega:cmpHd y z ≤ 0)
  by_cases c:cmpHd x z = 0
  · have:=cmpHd_anti c
    subst this
    have:=cmpHd_neg x y
    omega
  · omega
abbrev SortH (l:List Hd):Prop:=l.Pairwise (fun x y=>cmpHd x y ≤ 0)
theorem sortH_of {nq:Nat} {l:List Hd} (h:firstE (hdE nq l) l.length = 0):SortH l:=by
  rw [SortH,List.pairwise_iff_getElem]
  have step:∀ i (hi:i + 1 < l.length),cmpHd l[i] l[i + 1] ≤ 0:=fun i hi=>by
    have h2:=firstE_zero h (i + 1) hi
    rw [hdE_at (List.getElem?_eq_getElem hi)] at h2
    have e:l.getD (i + 1 - 1) l[i + 1] = l[i]:=by simp [List.getD_eq_getElem?_getD,List.getElem?_eq_getElem (by omega:i < l.length)]
    rw [e] at h2
    by_cases c:okHd nq l[i + 1]
    · rw [if_neg (by simpa using c)] at h2
      by_cases c2:0 < cmpHd l[i] l[i + 1]
      · rw [if_pos ⟨by omega,c2⟩] at h2; omega
      · omega
    · rw [if_pos c] at h2; omega
  intro i j hi hj hij
  induction j with
  | zero=>omega
  | succ j ih =>
    by_cases c:i = j
    · subst c; exact step i hj
    · exact cmpHd_trans (ih (by omega) (by omega)) (step j hj)
theorem sortH_first {nq:Nat} {l:List Hd} (hok:∀ x ∈ l,okHd nq x) (hs:SortH l):firstE (hdE nq l) l.length = 0:=by
  refine firstE_all (fun k hk=>?_)
  rw [hdE_at (List.getElem?_eq_getElem hk),if_neg (by simpa using hok _ (List.getElem_mem hk))]
  refine if_neg (fun ⟨h0,h1⟩=>?_)
  have e:l.getD (k - 1) l[k] = l[k - 1]:=by simp [List.getD_eq_getElem?_getD,List.getElem?_eq_getElem (by omega:k - 1 < l.length)]
  rw [e] at h1
  have:=List.pairwise_iff_getElem.1 hs (k - 1) k (by omega) hk (by omega)
  omega
theorem stored_append (a b:List Hd) (n t:Int):stored (a ++ b) n t = stored a n t + stored b n t:=by
  induction a with
  | nil=>simp [stored]
  | cons h a ih=>simp only [List.cons_append,stored,ih]; omega
theorem fitB_iff {qs:List Int} {l:List Hd}:fitB qs l = true ↔ ∀ h ∈ l,stored l h.n h.a ≤ qs.getD h.n.toNat 0:=by
  unfold fitB;rw [List.all_eq_true]
  simp
end Go.Step
/- The parts of an interval, found one by one. No program in sight. No conditions. -/
namespace Go.Step
def nx (fr to:Int):List Lv → Int
  | []=>to
  | l :: f=>if fr < l.a then min l.a to else nx fr to f
def lens (ps:List ((Int × Int) × Int)):Int:=ps.foldr (fun p s=>(p.1.2 - p.1.1) + s) 0
end Go.Step
/- The greatest and the least value, where a function is low; the times of two functions, merged. No program in sight. No conditions. -/
namespace Go.Step
abbrev Pt:=(Int × Int) × Int
/-! times,merged -/
structure TInv (f g:List Lv) (i k:Nat) (out:List Int):Prop where
  sa:SA out
  mem:∀ x,x ∈ out ↔ ∃ l ∈ f.take i ++ g.take k,l.a = x
  f:∀ x ∈ out,∀ l ∈ f.drop i,x ≤ l.a
  g:∀ x ∈ out,∀ l ∈ g.drop k,x ≤ l.a
theorem TInv.zero (f g:List Lv):TInv f g 0 0 []:=⟨by simp,by simp,by simp,by simp⟩
theorem TInv.done {f g:List Lv} {out:List Int} (h:TInv f g f.length g.length out):out = tms f g:=by
  obtain ⟨h1,h2⟩:=tms_sa f g
  refine SA.unique h.sa h1 (fun x=>?_)
  rw [h.mem,h2,List.take_length,List.take_length]
theorem SA.len:∀ {out:List Int} {f:List Int},SA out → (∀ x ∈ out,x ∈ f) → out.length ≤ f.length
  | [],_,_,_=>by simp
  | x :: out,f,h,hm=>by
    have p:=List.pairwise_cons.1 h
    have hx:=hm x (by simp)
    have:=SA.len (f:=f.erase x) p.2 (fun y hy=>by
      have h1:=hm y (by simp [hy])
      have h2:=p.1 y hy
      exact (List.mem_erase_of_ne (by omega)).2 h1)
    rw [List.length_erase_of_mem hx] at this
    have:0 < f.length:=List.length_pos_iff.2 (fun e=>by subst e; simp at hx)
    simp; omega
theorem TInv.len {f g:List Lv} {i k:Nat} {out:List Int} (h:TInv f g i k out):out.length ≤ f.length + g.length:=by
  have:=SA.len (f:=(f ++ g).map (·.a)) h.sa (fun x hx=>by
    obtain ⟨l,hl,rfl⟩:=(h.mem x).1 hx
    rw [List.mem_map];refine ⟨l,?_,rfl⟩
    simp at hl ⊢
    rcases hl with hl | hl
    · exact .inl (List.mem_of_mem_take hl)
    · exact .inr (List.mem_of_mem_take hl))
  simpa using this
end Go.Step
namespace Go.Step
theorem AddR.err0 {f out:List Lv} {fr to d e:Int} (h:AddR f fr to d out e) (h0:chkS f = 0) (hs:0 ≤ fr ∧ fr ≤ to ∧ to ≤ 1099511627776) (hd:-2251799813685248 ≤ d ∧ d ≤ 2251799813685248) (hv:∀ t,okV (val f t + if fr ≤ t ∧ t < to then d else 0)) (hl:f.length ≤ 998):e = 0:=by
  rcases h with ⟨a,_⟩ | ⟨_,a,_⟩ | ⟨_,_,_,_,_,a⟩ | ⟨a,b,c,x⟩
  · exact absurd h0 a
  · omega
  · exact a
  · rcases x with ⟨⟨t,_,ht⟩,_⟩ | ⟨_,hbig,_⟩ | ⟨_,_,_,he⟩
    · have:=hv t
      dsimp only at ht
      rw [bump_val fr to d t b.2.1] at ht;exact absurd this ht
    · have h1:=comb_len (fun t=>val f t + val (bump fr to d) t) (tms f (bump fr to d)) 0
      obtain ⟨hsa,hmem⟩:=tms_sa f (bump fr to d)
      have h2:=SA.len (f:=(f ++ bump fr to d).map (·.a)) hsa (fun x hx=>by
        obtain ⟨l,hl,rfl⟩:=(hmem x).1 hx
        exact List.mem_map.2 ⟨l,hl,rfl⟩)
      rw [List.length_map,List.length_append] at h2
      have:(bump fr to d).length = 2:=rfl
      omega
    · exact he
end Go.Step
namespace Go.Step
theorem CombP.len {F:Int → Int} {ts:List Int} {out:List Lv} {e:Int} (h:CombP F ts out e):out.length ≤ 1000:=by
  rcases h with ⟨_,rfl,_⟩ | ⟨_,_,rfl,_⟩ | ⟨_,h,rfl,_⟩
  · simp
  · simp
  · exact h
theorem AddR.len {f out:List Lv} {fr to d e:Int} (h:AddR f fr to d out e):out.length ≤ 1000:=by
  rcases h with ⟨_,rfl,_⟩ | ⟨_,_,rfl,_⟩ | ⟨a,_,_,_,rfl,_⟩ | ⟨_,_,_,hP⟩
  · simp
  · simp
  · exact (chkS_ok a).1
  · exact hP.len
theorem SumR.len {f g out:List Lv} {e:Int} (h:SumR f g out e):out.length ≤ 1000:=by
  rcases h with ⟨_,rfl,_⟩ | ⟨_,_,hP⟩
  · simp
  · exact hP.len
end Go.Step
namespace Go.Step
theorem tms_len (f g:List Lv):(tms f g).length ≤ f.length + g.length:=by
  obtain ⟨hsa,hmem⟩:=tms_sa f g
  have h2:=SA.len (f:=(f ++ g).map (·.a)) hsa (fun x hx=>by
    obtain ⟨l,hl,rfl⟩:=(hmem x).1 hx
    exact List.mem_map.2 ⟨l,hl,rfl⟩)
  rw [List.length_map,List.length_append] at h2;exact h2
theorem CombP.len2 {F:Int → Int} {ts:List Int} {out:List Lv} {e:Int} (h:CombP F ts out e):out.length ≤ ts.length:=by
  rcases h with ⟨_,rfl,_⟩ | ⟨_,_,rfl,_⟩ | ⟨_,_,rfl,_⟩
  · simp
  · simp
  · exact comb_len F ts 0
theorem AddR.len2 {f out:List Lv} {fr to d e:Int} (h:AddR f fr to d out e):out.length ≤ f.length + 2:=by
  rcases h with ⟨_,rfl,_⟩ | ⟨_,_,rfl,_⟩ | ⟨a,_,_,_,rfl,_⟩ | ⟨_,_,_,hP⟩
  · simp
  · simp
  · omega
  · have:=hP.len2
    have:=tms_len f (bump fr to d)
    have:(bump fr to d).length = 2:=rfl
    omega
theorem okV_val {f:List Lv} (h:chkS f = 0) (t:Int):okV (val f t):=by
  have hA:=(chkS_ok h).2
  rcases vat_mem f 0 t with e | ⟨l,hl,e⟩
  · unfold okV val; rw [e]; omega
  · unfold okV val
    rw [e]
    have:=hA.gt l hl
    omega
theorem AddR.cond {f out:List Lv} {fr to d:Int} (h:AddR f fr to d out 0):(0 ≤ fr ∧ fr ≤ to ∧ to ≤ 1099511627776) ∧ -2251799813685248 ≤ d ∧ d ≤ 2251799813685248:=by
  rcases h with ⟨_,_,h⟩ | ⟨_,_,_,h⟩ | ⟨_,b,c,_⟩ | ⟨_,b,c,_⟩
  · simp at h
  · simp at h
  · exact ⟨b,c⟩
  · exact ⟨by omega,c⟩
theorem AddR.back {f p out:List Lv} {fr to d e:Int} (h:AddR f fr to d p 0) (hl:f.length ≤ 900) (h':AddR p fr to (-d) out e):e = 0 ∧ out = f:=by
  obtain ⟨c1,c2,c3⟩:=h.cond
  obtain ⟨h1,h2,h3⟩:=h.ok
  have hlp:=h.len2
  have hneg:∀ t:Int,-1 ≤ t → val p t + (if fr ≤ t ∧ t < to then -d else 0) = val f t:=fun t ht=>by
    rw [h3 t ht]
    by_cases hc:fr ≤ t ∧ t < to
    · rw [if_pos hc,if_pos hc]; omega
    · rw [if_neg hc,if_neg hc]; omega
  have he:e = 0:=h'.err0 h2 c1 (by omega) (fun t=>by
    by_cases ht:-1 ≤ t
    · rw [hneg t ht]; exact okV_val h1 t
    · rw [if_neg (by omega)]
      have:=okV_val h2 t
      unfold okV at this ⊢
      omega) (by omega)
  subst he
  obtain ⟨_,k2,k3⟩:=h'.ok
  exact ⟨rfl,chkS_unique k2 h1 (fun t ht=>by rw [k3 t ht,hneg t ht])⟩
theorem AddR.swap {f p q r s:List Lv} {a1 a2 a b1 b2 b:Int} (h1:AddR f a1 a2 a p 0) (h2:AddR p b1 b2 b q 0) (h3:AddR f b1 b2 b r 0) (h4:AddR r a1 a2 a s 0):q = s:=by
  obtain ⟨_,_,e1⟩:=h1.ok
  obtain ⟨_,k2,e2⟩:=h2.ok
  obtain ⟨_,_,e3⟩:=h3.ok
  obtain ⟨_,k4,e4⟩:=h4.ok
  exact chkS_unique k2 k4 (fun t ht=>by rw [e2 t ht,e1 t ht,e4 t ht,e3 t ht]; omega)
theorem SumR.ok {f g o:List Lv} (h:SumR f g o 0):chkS f = 0 ∧ chkS g = 0 ∧ chkS o = 0 ∧ ∀ t:Int,-1 ≤ t → val o t = val f t + val g t:=by
  rcases h with ⟨_,_,h⟩ | ⟨a,b,c⟩
  · simp at h
  · obtain ⟨h1,h2⟩:=CombP.ok (op:=(· + ·)) (chkS_ok a).2.t (chkS_ok b).2.t rfl c
    exact ⟨a,b,h1,h2⟩
end Go.Step
/- Parts cover an interval; greatest and least values are values. No program in sight. No conditions. -/
namespace Go.Step
end Go.Step
/- Where a function is low: intervals apart from each other. No program in sight. No conditions. -/
namespace Go.Step
def Chn (a:Int):List Pt → Int → Prop
  | [],b=>a = b
  | p :: ps,b=>p.1.1 = a ∧ a < p.1.2 ∧ Chn p.1.2 ps b
def Cov (l:List (Int × Int)) (t:Int):Prop:=∃ s ∈ l,s.1 ≤ t ∧ t < s.2
structure Apart (lo a:Int) (l:List (Int × Int)):Prop where
  ok:∀ s ∈ l,lo ≤ s.1 ∧ s.1 < s.2 ∧ s.2 ≤ a
  sep:l.Pairwise (fun s t=>s.2 < t.1)
end Go.Step
/- The free spans of a node are exactly the times with room. No program in sight. No conditions. -/
namespace Go.Step
structure InvF (Q s:Int) (G:Int → Int) (T v:Int) (st:Int × List (Int × Int)):Prop where
  ap:Apart 0 T st.2
  fr:st.1 = -1 ∨ (0 ≤ st.1 ∧ st.1 ≤ T ∧ ∀ u ∈ st.2,u.2 < st.1)
  cov:∀ t,0 ≤ t → t < T → ((Cov st.2 t ∨ (0 ≤ st.1 ∧ st.1 ≤ t)) ↔ G t + s ≤ Q)
  now:0 ≤ st.1 ↔ v + s ≤ Q
theorem cov_snoc (l:List (Int × Int)) (x:Int × Int) (t:Int):Cov (l ++ [x]) t ↔ Cov l t ∨ (x.1 ≤ t ∧ t < x.2):=by
  unfold Cov
  constructor
  · rintro ⟨s,hs,h⟩
    rcases List.mem_append.1 hs with hs | hs
    · exact .inl ⟨s,hs,h⟩
    · simp only [List.mem_singleton] at hs; subst hs; exact .inr h
  · rintro (⟨s,hs,h⟩ | h)
    · exact ⟨s,by simp [hs],h⟩
    · exact ⟨x,by simp,h⟩
theorem apart_snoc {T T':Int} {l:List (Int × Int)} {x:Int × Int} (h:Apart 0 T l) (hT:T ≤ T') (hx:0 ≤ x.1 ∧ x.1 < x.2 ∧ x.2 ≤ T') (hs:∀ u ∈ l,u.2 < x.1):Apart 0 T' (l ++ [x]):=by
  refine ⟨fun s hm=>?_,List.pairwise_append.2 ⟨h.sep,by simp,fun a ha b hb=>?_⟩⟩
  · rcases List.mem_append.1 hm with hm | hm
    · have:=h.ok s hm; omega
    · simp only [List.mem_singleton] at hm; subst hm; exact hx
  · simp only [List.mem_singleton] at hb; subst hb; exact hs a ha
theorem apart_mono {T T':Int} {l:List (Int × Int)} (h:Apart 0 T l) (hT:T ≤ T'):Apart 0 T' l:=⟨fun s hm=>by have:=h.ok s hm; omega,h.sep⟩
theorem InvF.step {Q s:Int} {G:Int → Int} {T v:Int} {st:Int × List (Int × Int)} (h:InvF Q s G T v st) {T' v':Int} (h0:0 ≤ T) (hT:T < T' ∨ (T = T' ∧ st.2 = [])) (hG:∀ t,T ≤ t → t < T' → G t = v):InvF Q s G T' v' (frA Q s st T' v'):=by
  have hle:T ≤ T':=by omega
  obtain ⟨fr,out⟩:=st
  obtain ⟨hap,hfr,hcov,hnow⟩:=h
  dsimp only at hap hfr hcov hnow hT
  unfold frA
  by_cases hc:Q - v' < s
  · rw [if_pos hc]
    dsimp only
    by_cases ho:0 ≤ fr ∧ fr < T'
    · rw [if_pos ho]
      have hsep:∀ u ∈ out,u.2 < fr:=by rcases hfr with h | h; omega; exact h.2.2
      refine ⟨apart_snoc hap hle ⟨ho.1,ho.2,Int.le_refl _⟩ hsep,.inl rfl,fun t ht ht2=>?_,by constructor <;> intro h <;> omega⟩
      dsimp only
      rw [cov_snoc]
      dsimp only
      by_cases c:t < T
      · have:=hcov t ht c
        rw [← this]
        constructor
        · rintro ((h | h) | h)
          · exact .inl h
          · exact .inr ⟨ho.1,h.1⟩
          · omega
        · rintro (h | h)
          · exact .inl (.inl h)
          · exact .inl (.inr ⟨h.2,ht2⟩)
      · rw [hG t (by omega) ht2]
        have:=hnow.1 ho.1
        constructor
        · intro _; exact this
        · intro _
          refine .inl (.inr ⟨?_,ht2⟩)
          rcases hfr with h | h <;> omega
    · rw [if_neg ho]
      refine ⟨apart_mono hap hle,.inl rfl,fun t ht ht2=>?_,by constructor <;> intro h <;> dsimp only at * <;> omega⟩
      dsimp only
      by_cases c:t < T
      · rw [← hcov t ht c]
        constructor
        · rintro (h | h)
          · exact .inl h
          · omega
        · rintro (h | h)
          · exact .inl h
          · omega
      · rw [hG t (by omega) ht2]
        constructor
        · rintro (⟨u,hu,h⟩ | h)
          · have:=hap.ok u hu; omega
          · omega
        · intro h
          have:=hnow.2 h
          exact absurd ⟨this,by rcases hfr with k | k <;> omega⟩ ho
  · rw [if_neg hc]
    dsimp only
    by_cases ho:fr < 0
    · rw [if_pos ho]
      refine ⟨apart_mono hap hle,.inr ⟨by dsimp only; omega,Int.le_refl _,fun u hu=>?_⟩,fun t ht ht2=>?_,by constructor <;> intro h <;> dsimp only at * <;> omega⟩
      · dsimp only at hu ⊢
        have:=hap.ok u hu
        rcases hT with h | h
        · omega
        · rw [h.2] at hu; simp at hu
      · dsimp only
        by_cases c:t < T
        · rw [← hcov t ht c]
          constructor
          · rintro (h | h)
            · exact .inl h
            · omega
          · rintro (h | h)
            · exact .inl h
            · omega
        · rw [hG t (by omega) ht2]
          constructor
          · rintro (⟨u,hu,h⟩ | h)
            · have:=hap.ok u hu; omega
            · omega
          · intro h
            have:=hnow.2 h; omega
    · rw [if_neg ho]
      have hf:0 ≤ fr ∧ fr ≤ T ∧ ∀ u ∈ out,u.2 < fr:=by
        rcases hfr with h | h
        · omega
        · exact h
      refine ⟨apart_mono hap hle,.inr ⟨hf.1,by dsimp only; omega,hf.2.2⟩,fun t ht ht2=>?_,by constructor <;> intro h <;> dsimp only at * <;> omega⟩
      dsimp only
      by_cases c:t < T
      · exact hcov t ht c
      · rw [hG t (by omega) ht2]
        have:=hnow.1 hf.1
        constructor
        · intro _; exact this
        · intro _; exact .inr ⟨hf.1,by omega⟩
end Go.Step
/- Laws on holds: some released, one more, in whatever order. No program in sight. No conditions. -/
namespace Go.Step
end Go.Step
/- Bookings of contacts; tables. No program in sight. No conditions. -/
namespace Go.Step
structure Bk where
  c:Int
  a:Int
  b:Int
  k:Int
deriving DecidableEq
def okBk (cs:List Ct) (x:Bk):Prop:=(0 ≤ x.c ∧ x.c < cs.length ∧ 0 ≤ x.k ∧ x.k ≤ 1152921504606846976) ∧ ∃ c,cs[x.c.toNat]? = some c ∧ c.s ≤ x.a ∧ x.a < x.b ∧ x.b ≤ c.e
def okBkB (cs:List Ct) (x:Bk):Bool:=decide (0 ≤ x.c ∧ x.c < cs.length ∧ 0 ≤ x.k ∧ x.k ≤ 1152921504606846976) && (match cs[x.c.toNat]? with
  | some c=>decide (c.s ≤ x.a ∧ x.a < x.b ∧ x.b ≤ c.e)
  | none=>false)
theorem okBkB_iff (cs:List Ct) (x:Bk):okBkB cs x = true ↔ okBk cs x:=by
  unfold okBkB okBk;rw [Bool.and_eq_true,decide_eq_true_iff]
  cases h:cs[x.c.toNat]? with
  | none=>simp
  | some c=>simp
def cmpBk (x y:Bk):Int:=orI [cmpI x.c y.c,cmpI x.a y.a]
theorem cmpBk_lt (x y:Bk):cmpBk x y < 0 ↔ x.c < y.c ∨ (x.c = y.c ∧ x.a < y.a):=by
  unfold cmpBk
  rcases orI_cmp x.c y.c [cmpI x.a y.a] with ⟨h1,e⟩ | ⟨h1,e⟩ | ⟨h1,e⟩
  · rw [e]; omega
  · rw [e]
    rcases orI_cmp x.a y.a [] with ⟨h2,e⟩ | ⟨h2,e⟩ | ⟨h2,e⟩
    · rw [e]; omega
    · rw [e]; simp only [orI]; omega
    · rw [e]; omega
  · rw [e]; omega
def bk2E (p x:Bk):Int:=if ¬ cmpBk p x < 0 then 9 else if p.c = x.c ∧ x.a < p.b then 14 else 0
def bkE (cs:List Ct) (l:List Bk) (i:Nat):Int:=match l[i]? with
  | some x=>if okBkB cs x = false then 2 else if i = 0 then 0 else bk2E (l.getD (i - 1) x) x
  | none=>0
theorem bkE_at {cs:List Ct} {l:List Bk} {i:Nat} {x:Bk} (e:l[i]? = some x):bkE cs l i = if okBkB cs x = false then 2 else if i = 0 then 0 else bk2E (l.getD (i - 1) x) x:=by unfold bkE; rw [e]
def chkB (qs:List Int) (cs:List Ct) (l:List Bk):Int:=
  if chkPl qs cs ≠ 0 then 1 else if 512 < l.length then 4 else firstE (bkE cs l) l.length
def chkT (qs:List Int) (cs:List Ct) (bs:List Bk) (hs:List Hd):Int:=
  if chkPl qs cs ≠ 0 then chkPl qs cs else if chkB qs cs bs ≠ 0 then chkB qs cs bs else chkH qs cs hs
def busyL (l:List Bk) (c:Int):List (Int × Int):=(l.filter (fun x=>decide (x.c = c))).map (fun x=>(x.a,x.b))
theorem busyL_next (c:Int) {l:List Bk} {k:Nat} {x:Bk} (h:l[k]? = some x):busyL (l.take (k + 1)) c = busyL (l.take k) c ++ (if x.c = c then [(x.a,x.b)] else []):=by
  obtain ⟨hk,rfl⟩:=List.getElem?_eq_some_iff.1 h
  unfold busyL;rw [List.take_succ_eq_append_getElem hk,List.filter_append,List.map_append]
  congr 1
  by_cases e:l[k].c = c
  · simp [e]
  · simp [e]
theorem busyL_len (l:List Bk) (c:Int):(busyL l c).length ≤ l.length:=by
  unfold busyL;rw [List.length_map];exact List.length_filter_le _ _
def bookedB (l:List Bk) (c t:Int):Bool:=(busyL l c).any (fun x=>decide (x.1 ≤ t) && decide (t < x.2))
theorem bkE_ok {cs:List Ct} {l:List Bk} (h:firstE (bkE cs l) l.length = 0):∀ x ∈ l,okBk cs x:=fun x hx=>by
  obtain ⟨i,hi,rfl⟩:=List.getElem_of_mem hx
  have h2:=firstE_zero h i hi
  rw [bkE_at (List.getElem?_eq_getElem hi)] at h2
  cases hc:okBkB cs l[i] with
  | true=>exact (okBkB_iff _ _).1 hc
  | false=>rw [if_pos hc] at h2; omega
theorem chkT_ok {qs:List Int} {cs:List Ct} {bs:List Bk} {hs:List Hd} (h:chkT qs cs bs hs = 0):chkPl qs cs = 0 ∧ chkB qs cs bs = 0 ∧ chkH qs cs hs = 0:=by
  unfold chkT at h
  by_cases h1:chkPl qs cs = 0
  · rw [if_neg (by simpa using h1)] at h
    by_cases h2:chkB qs cs bs = 0
    · rw [if_neg (by simpa using h2)] at h
      exact ⟨h1,h2,h⟩
    · rw [if_pos h2] at h; exact absurd h h2
  · rw [if_pos h1] at h; exact absurd h h1
theorem chkB_ok {qs:List Int} {cs:List Ct} {bs:List Bk} (h:chkB qs cs bs = 0):bs.length ≤ 512 ∧ firstE (bkE cs bs) bs.length = 0:=by
  unfold chkB at h
  by_cases h1:chkPl qs cs = 0
  · rw [if_neg (by simpa using h1)] at h
    by_cases h2:512 < bs.length
    · rw [if_pos h2] at h; omega
    · rw [if_neg h2] at h; exact ⟨by omega,h⟩
  · rw [if_pos h1] at h; omega
end Go.Step
/- Bookings: checked. -/
namespace Go.Proofs.YtjehnjhkcmobcaaGreat
open Go.Eng Go.Step
set_option maxRecDepth 100000
set_option maxHeartbeats 4000000

set_option maxHeartbeats 16000000 in
theorem bkValid_spec (τ:PH) (pq pc:Option Addr) (nq kq kc:Nat) (cs:List Ct) (x:Bk) (hc:CtAt τ (.slice pc cs.length kc) cs) :
  Ans Tryz.prog (fv 102) [.agg #[.slice pq nq kq,.slice pc cs.length kc],.agg #[int x.c,int x.a,int x.b,int x.k]] [τ] (fun r=>r = .bool (okBkB cs x)):=by
 obtain ⟨_,_,e,hrc⟩:=hc.val encC_len
 simp only [Value.slice.injEq] at e
 obtain ⟨rfl,_,rfl⟩:=e
 refine spec_in (cap:=[]) Tryz.func102 rfl rfl Tryz.ntmps102 rfl envZ (fun N β=>?_)
 refine Aa ?_;refine BH (BM rfl) rfl rfl rfl ?_;rintro _ _ ⟨b2,rfl,rfl⟩;refine AT (ρ:=sng b2 _) takeZ ?_
 have cp:=rdB b2 25 [.slice pq nq kq,.slice pc cs.length kc]
 have cp1:=rdC cp 1
 refine BH (BM rfl) rfl rfl rfl ?_;rintro _ _ ⟨b3,rfl,rfl⟩;refine AT (ρ:=sng b3 _) takeZ ?_
 have cx:=rdB b3 95 [int x.c,int x.a,int x.b,int x.k]
 have cx0:=rdC cx 0
 have cx1:=rdC cx 1
 have cx2:=rdC cx 2
 have cx3:=rdC cx 3
 by_cases hin:0 ≤ x.c ∧ x.c < cs.length ∧ 0 ≤ x.k ∧ x.k ≤ 1152921504606846976
 ·obtain ⟨nn,hnn⟩:∃ nn:Nat,x.c = nn:=⟨x.c.toNat,by omega⟩
  have hlt:nn < cs.length:=by omega
  have hx:=List.getElem?_eq_getElem hlt
  obtain ⟨b1,o1,rfl,hrd⟩:=ctRow hrc hx
  have hok:okBkB cs x = decide (cs[nn].s ≤ x.a ∧ x.a < x.b ∧ x.b ≤ cs[nn].e):=by
   unfold okBkB;rw [decide_eq_true hin,Bool.true_and,hnn,Int.toNat_natCast,hx]
  rw [hok]
  have cn:rdc (sng b3 (.cells #[int x.c,int x.a,int x.b,int x.k] 95 (0,0))) b3 0 = some (int nn):=by rw [rdc_sng,← hnn]; rfl
  clear cx0 hok
  generalize cs[nn] = c at hrd
  refine Acp ?_;refine Ad2 ?_;refine AV ?_;refine Abj ?_;refine Abq ?_;refine B0 ?_;refine Acz ?_;refine Aac ?_;refine Abc ?_;refine AY ?_; rintro _ _ ⟨b,rfl,rfl⟩;refine AU ?_; rintro _ _ ⟨rfl,rfl⟩;refine AE ?_;refine Aao ?_;refine Aac ?_
  by_cases h1:c.s ≤ x.a
  ·by_cases h2:x.a < x.b
   ·by_cases h3:x.b ≤ c.e
    ·rw [decide_eq_true ⟨h1,h2,h3⟩]
     refine CL ?_;refine Aa5 ?_;refine BB ?_;refine Acw ?_;refine CU ?_;refine Ab2 ?_;exact AI (res1 rfl rfl) rsubZ selZ ⟨rfl,rfl⟩
    ·rw [decide_eq_false (fun h=>h3 h.2.2)]
     refine CL ?_;refine Aa5 ?_;refine BB ?_;refine Acw ?_;refine CZ ?_;refine Ab2 ?_;exact AI (res1 rfl rfl) rsubZ selZ ⟨rfl,rfl⟩
   ·rw [decide_eq_false (fun h=>h2 h.2.1)]
    refine CL ?_;refine Aa5 ?_;refine A0 ?_;refine AN ?_;refine Abz ?_;refine Ab4 ?_;exact AI (res1 rfl rfl) rsubZ selZ ⟨rfl,rfl⟩
  ·rw [decide_eq_false (fun h=>h1 h.1)]
   refine BL ?_;refine Abz ?_;refine AJ ?_;refine Abz ?_;refine Ab4 ?_;exact AI (res1 rfl rfl) rsubZ selZ ⟨rfl,rfl⟩
 ·have hok:okBkB cs x = false:=by
   unfold okBkB;rw [decide_eq_false hin,Bool.false_and]
  rw [hok]
  by_cases h1:x.c < 0
  ·refine AD ?_
   refine Acg ?_;refine BB ?_;refine Ac0 ?_;refine AN ?_;refine Aem ?_;exact AI (res1 rfl rfl) rsubZ selZ ⟨rfl,rfl⟩
  by_cases h2:(cs.length:Int) ≤ x.c
  ·refine AD ?_
   refine Acg ?_;refine Ad2 ?_;refine AV ?_;refine CL ?_;refine AJ ?_;refine Aem ?_;exact AI (res1 rfl rfl) rsubZ selZ ⟨rfl,rfl⟩
  by_cases h3:x.k < 0
  ·refine AD ?_
   refine Acg ?_;refine Ad2 ?_;refine AV ?_;refine Abj ?_;refine BB ?_;refine AJ ?_;refine Adr ?_;exact AI (res1 rfl rfl) rsubZ selZ ⟨rfl,rfl⟩
  by_cases h4:1152921504606846976 < x.k
  ·refine AD ?_
   refine Acg ?_;refine Ad2 ?_;refine AV ?_;refine Abj ?_;refine Abq ?_;refine CQ ?_;refine Adu ?_;exact AI (res1 rfl rfl) rsubZ selZ ⟨rfl,rfl⟩
  ·exfalso; omega
set_option maxHeartbeats 16000000 in
theorem refBkValid_spec (τ:PH) (pq pc:Option Addr) (nq kq kc:Nat) (cs:List Ct) (x:Bk) (hc:CtAt τ (.slice pc cs.length kc) cs) :
  Ans Tryz.prog (fv 170) [.agg #[.slice pq nq kq,.slice pc cs.length kc],.agg #[int x.c,int x.a,int x.b,int x.k]] [τ] (fun r=>r = .bool (okBkB cs x)):=by
 obtain ⟨_,_,e,hrc⟩:=hc.val encC_len
 simp only [Value.slice.injEq] at e
 obtain ⟨rfl,_,rfl⟩:=e
 refine spec_in (cap:=[]) Tryz.func170 rfl rfl Tryz.ntmps170 rfl envZ (fun N β=>?_)
 refine Aa ?_;refine BH (BM rfl) rfl rfl rfl ?_;rintro _ _ ⟨b2,rfl,rfl⟩;refine AT (ρ:=sng b2 _) takeZ ?_
 have cp:=rdB b2 25 [.slice pq nq kq,.slice pc cs.length kc]
 have cp1:=rdC cp 1
 refine BH (BM rfl) rfl rfl rfl ?_;rintro _ _ ⟨b3,rfl,rfl⟩;refine AT (ρ:=sng b3 _) takeZ ?_
 have cx:=rdB b3 95 [int x.c,int x.a,int x.b,int x.k]
 have cx0:=rdC cx 0
 have cx1:=rdC cx 1
 have cx2:=rdC cx 2
 have cx3:=rdC cx 3
 by_cases hin:0 ≤ x.c ∧ x.c < cs.length ∧ 0 ≤ x.k ∧ x.k ≤ 1152921504606846976
 ·obtain ⟨nn,hnn⟩:∃ nn:Nat,x.c = nn:=⟨x.c.toNat,by omega⟩
  have hlt:nn < cs.length:=by omega
  have hx:=List.getElem?_eq_getElem hlt
  obtain ⟨b1,o1,rfl,hrd⟩:=ctRow hrc hx
  have hok:okBkB cs x = decide (cs[nn].s ≤ x.a ∧ x.a < x.b ∧ x.b ≤ cs[nn].e):=by
   unfold okBkB;rw [decide_eq_true hin,Bool.true_and,hnn,Int.toNat_natCast,hx]
  rw [hok]
  have cn:rdc (sng b3 (.cells #[int x.c,int x.a,int x.b,int x.k] 95 (0,0))) b3 0 = some (int nn):=by rw [rdc_sng,← hnn]; rfl
  clear cx0 hok
  generalize cs[nn] = c at hrd
  refine Acp ?_;refine Ad2 ?_;refine AV ?_;refine Abj ?_;refine Abq ?_;refine B0 ?_;refine Acz ?_;refine Aac ?_;refine Abc ?_;refine AY ?_; rintro _ _ ⟨b,rfl,rfl⟩;refine AU ?_; rintro _ _ ⟨rfl,rfl⟩;refine AE ?_;refine Aao ?_;refine Aac ?_
  by_cases h1:c.s ≤ x.a
  ·by_cases h2:x.a < x.b
   ·by_cases h3:x.b ≤ c.e
    ·rw [decide_eq_true ⟨h1,h2,h3⟩]
     refine CU ?_;refine Aa5 ?_;refine BB ?_;refine Acw ?_;refine CU ?_;refine Ab2 ?_;exact AI (res1 rfl rfl) rsubZ selZ ⟨rfl,rfl⟩
    ·rw [decide_eq_false (fun h=>h3 h.2.2)]
     refine CU ?_;refine Aa5 ?_;refine BB ?_;refine Acw ?_;refine CZ ?_;refine Ab2 ?_;exact AI (res1 rfl rfl) rsubZ selZ ⟨rfl,rfl⟩
   ·rw [decide_eq_false (fun h=>h2 h.2.1)]
    refine CU ?_;refine Aa5 ?_;refine A0 ?_;refine AN ?_;refine Abz ?_;refine Ab4 ?_;exact AI (res1 rfl rfl) rsubZ selZ ⟨rfl,rfl⟩
  ·rw [decide_eq_false (fun h=>h1 h.1)]
   refine CZ ?_;refine Abz ?_;refine AJ ?_;refine Abz ?_;refine Ab4 ?_;exact AI (res1 rfl rfl) rsubZ selZ ⟨rfl,rfl⟩
 ·have hok:okBkB cs x = false:=by
   unfold okBkB;rw [decide_eq_false hin,Bool.false_and]
  rw [hok]
  by_cases h1:x.c < 0
  ·refine AD ?_
   refine Acg ?_;refine BB ?_;refine Ac0 ?_;refine AN ?_;refine Aem ?_;exact AI (res1 rfl rfl) rsubZ selZ ⟨rfl,rfl⟩
  by_cases h2:(cs.length:Int) ≤ x.c
  ·refine AD ?_
   refine Acg ?_;refine Ad2 ?_;refine AV ?_;refine CL ?_;refine AJ ?_;refine Aem ?_;exact AI (res1 rfl rfl) rsubZ selZ ⟨rfl,rfl⟩
  by_cases h3:x.k < 0
  ·refine AD ?_
   refine Acg ?_;refine Ad2 ?_;refine AV ?_;refine Abj ?_;refine BB ?_;refine AJ ?_;refine Adr ?_;exact AI (res1 rfl rfl) rsubZ selZ ⟨rfl,rfl⟩
  by_cases h4:1152921504606846976 < x.k
  ·refine AD ?_
   refine Acg ?_;refine Ad2 ?_;refine AV ?_;refine Abj ?_;refine Abq ?_;refine CQ ?_;refine Adu ?_;exact AI (res1 rfl rfl) rsubZ selZ ⟨rfl,rfl⟩
  ·exfalso; omega
def encB (x:Bk):List Value:=[int x.c,int x.a,int x.b,int x.k]
theorem encB_len (x:Bk):(encB x).length = 4:=rfl
abbrev BkAt (ρ:PH) (v:Value) (l:List Bk):Prop:=SlE encB 4 ρ v l
theorem bkRow {ρ:PH} {p:Option Addr} {l:List Bk} (h:RowsE encB 4 ρ p l) {i:Nat} {x:Bk} (hx:l[i]? = some x) :
  ∃ b o,p = some ⟨b,o,none⟩ ∧ RdN ρ b (o + i * 4) [int x.c,int x.a,int x.b,int x.k] ∧ rdc ρ b (o + i * 4) = some (int x.c) ∧ rdc ρ b (o + i * 4 + 1) = some (int x.a) ∧ rdc ρ b (o + i * 4 + 2) = some (int x.b) ∧ rdc ρ b (o + i * 4 + 3) = some (int x.k):=by
 obtain ⟨b,o,e,hr⟩:=h i x hx
 exact ⟨b,o,e,hr,hr.get0,hr.get (j:=1) rfl,hr.get (j:=2) rfl,hr.get (j:=3) rfl⟩
set_option maxHeartbeats 16000000 in
theorem bkCompare_spec (x y:Bk):Ans Tryz.prog (fv 103) [.agg #[int x.c,int x.a,int x.b,int x.k],.agg #[int y.c,int y.a,int y.b,int y.k]] [] (fun r=>r = int (cmpBk x y)):=by
 refine spec_in (cap:=[]) Tryz.func103 rfl rfl Tryz.ntmps103 rfl envZ (fun N β=>?_)
 refine Aa ?_;refine CD ?_; rintro _ _ ⟨b,rfl,rfl⟩;refine CD ?_; rintro _ _ ⟨b,rfl,rfl⟩;refine Abi ?_
 refine A8 (.q 0 (.q 1 (.q 2 (.q 3 (.q 5 (.q 6 (.q 7 (.q 8 (.l 4 .e (.l 9 .e (.l 10 .e (.l 11 .e (.q 12 .nil))))))))))))) [] rfl (by kernel_rfl) selZ ?_
 refine Acn ?_;refine Acn ?_
 focus ((refine B7 (CC rfl (cmpI_spec _ _) rfl rfl rdZ rfl rfl ?_); rintro _ rfl))
 focus ((refine B7 (CC rfl (cmpI_spec _ _) rfl rfl rdZ rfl rfl ?_); rintro _ rfl))
 refine BK ?_; rintro _ _ ⟨b,rfl,rfl⟩
 revert b; intro bo
 refine B7 (CC rfl (or_spec (sng bo _) _ [cmpI x.c y.c,cmpI x.a y.a] (slE_sng Eng.encI_len) (by simp)) rfl rfl rdZ rfl rfl ?_)
 rintro _ rfl;refine Adm ?_
 skip
 exact AI (res1 rfl rfl) rsubZ selZ ⟨rfl,rfl⟩
set_option maxHeartbeats 32000000 in
theorem bkCheck_spec (ρ τ σ:PH) (pq pc:Option Addr) (kq kc:Nat) (qs:List Int) (cs:List Ct) (v:Value) (l:List Bk) (hq:IntsAt ρ (.slice pq qs.length kq) qs) (hc:CtAt τ (.slice pc cs.length kc) cs) (hcap:cs.length ≤ kc) (lq:qs.length ≤ 9223372036854775807) (lc:cs.length ≤ 9223372036854775807) (hv:BkAt σ v l) (hl:l.length ≤ 9223372036854775807) :
  Ans Tryz.prog (fv 45) [.agg #[.slice pq qs.length kq,.slice pc cs.length kc],v] [ρ,τ,σ] (fun r=>r = int (chkB qs cs l)):=by
 have hv2:=hv
 obtain ⟨q,c,rfl,hr⟩:=hv.val encB_len
 refine spec_in (cap:=[]) Tryz.func45 rfl rfl Tryz.ntmps45 rfl envZ (fun N β=>?_)
 refine Aa ?_;refine BH (BM rfl) rfl rfl rfl ?_;rintro _ _ ⟨b1,rfl,rfl⟩;refine AT (ρ:=sng b1 _) takeZ ?_
 have c1:=rdB b1 25 [.slice pq qs.length kq,.slice pc cs.length kc]
 refine Abi ?_;refine Abp ?_;refine A3 (planCheck_spec ρ τ pq pc kq kc qs cs hq hc hcap lq lc) rfl rfl rdZ rfl rfl ?_;rintro _ rfl;unfold chkB
 by_cases hp:chkPl qs cs = 0
 rotate_left
 ·rw [if_pos hp]
  generalize chkPl qs cs = z at hp
  refine CK ?_;refine Aa4 ?_;exact AI (res1 rfl rfl) rsubZ selZ ⟨rfl,rfl⟩
 rw [if_neg (fun h=>h hp),hp]
 by_cases hbig:512 < l.length
 ·rw [if_pos hbig]
  refine Abb ?_;refine Ab ?_;refine CQ ?_;refine Aa4 ?_;exact AI (res1 rfl rfl) rsubZ selZ ⟨rfl,rfl⟩
 rw [if_neg hbig];refine Abb ?_;refine Ab ?_;refine B0 ?_;refine Aaj ?_;refine Abt ?_
 refine BA [1,2,13,14] (0:Nat) (fun k=>k ≤ l.length ∧ firstE (bkE cs l) k = 0) (fun k=>[(15,int k)]) (fun _=>[]) (fun k=>l.length - k) pickZ ⟨by omega,rfl⟩ covZ selZ ?_
 rintro k ⟨hk,hI⟩
 by_cases hlt:k < l.length
 ·have hx:=List.getElem?_eq_getElem hlt
  obtain ⟨b2,o2,rfl,hrd,g0,g1,g2,g3⟩:=bkRow hr hx
  have hE:=bkE_at (cs:=cs) hx
  generalize l[k] = x at hrd g0 g1 g2 g3 hE
  refine Ado ?_;refine AY ?_; rintro _ _ ⟨b,rfl,rfl⟩;refine AD ?_;refine AU ?_; rintro _ _ ⟨rfl,rfl⟩;refine Aal ?_;refine Ace ?_
  revert b; intro b6
  refine A3 (bkValid_spec τ pq pc qs.length kq kc cs x hc) rfl rfl rdZ rfl rfl ?_;rintro _ rfl
  cases hok:okBkB cs x with
  | false =>
   rw [if_pos hok] at hE
   have hh:=firstE_hit hI (by rw [hE]; decide) _ hlt
   rw [hh,hE];refine BE ?_;refine Aa4 ?_;exact AI (res1 rfl rfl) rsubZ selZ ⟨rfl,rfl⟩
  | true =>
  rw [if_neg (by rw [hok]; simp)] at hE
  by_cases h0:k = 0
  ·subst h0
   rw [if_pos rfl] at hE;refine Acb ?_;refine Aai ?_;refine Aea ?_;refine A6 rfl ?_;refine AA ?_;refine Aaz ?_
   exact AX (0 + 1) ⟨by omega,firstE_ok hI hE⟩ (by omega) covZ selZ
  ·have hlt':k - 1 < l.length:=by omega
   have hx':=List.getElem?_eq_getElem hlt'
   obtain ⟨_,_,e,hrd',p0,p1,p2,p3⟩:=bkRow hr hx'
   simp only [Option.some.injEq,Addr.mk.injEq,and_true] at e
   obtain ⟨rfl,rfl⟩:=e
   rw [if_neg h0,List.getD_eq_getElem?_getD,hx',Option.getD_some] at hE
   generalize l[k - 1] = p at hrd' p0 p1 p2 p3 hE
   have hle:=bkCompare_spec p x
   unfold bk2E at hE
   generalize cmpBk p x = z at hle hE
   refine Acb ?_;refine Aai ?_;refine CI ?_;refine Aaj ?_;refine AC ?_;refine AC ?_
   refine A8 (.q 0 (.q 1 (.q 2 (.q 3 (.q 4 (.q 5 (.l 6 .e (.q 7 .nil)))))))) [sng b6 _] rfl (by kernel_rfl) selZ ?_
   refine Acq ?_;refine BQ ?_;refine BQ ?_;refine B7 (CC rfl hle rfl rfl rdZ rfl rfl ?_);rintro _ rfl
   by_cases hc9:z < 0
   rotate_left
   ·rw [if_pos hc9] at hE
    have hh:=firstE_hit hI (by rw [hE]; decide) _ hlt
    rw [hh,hE];refine zd_ge ?_;refine Add ?_;exact AI (res1 rfl rfl) rsubZ selZ ⟨rfl,rfl⟩
   rw [if_neg (fun h=>h hc9)] at hE
   refine GN ?_;refine Aes ?_
   refine A8 (.q 0 (.q 1 (.q 2 (.q 3 (.q 4 (.q 5 (.q 6 (.q 7 (.q 8 (.q 9 (.q 10 (.q 11 (.q 12 (.q 13 (.q 14 (.q 15 (.q 16 (.q 17 (.q 18 (.q 19 .nil)))))))))))))))))))) [sng b6 _] rfl (by kernel_rfl) selZ ?_
   by_cases e1:p.c = x.c
   ·by_cases e2:x.a < p.b
    ·rw [if_pos ⟨e1,e2⟩] at hE
     have hh:=firstE_hit hI (by rw [hE]; decide) _ hlt
     rw [hh,hE];refine Aey ?_;refine Aar ?_;refine D9 ?_;refine Acx ?_;refine Aez ?_;refine FM ?_;refine BV ?_;refine Add ?_;exact AI (res1 rfl rfl) rsubZ selZ ⟨rfl,rfl⟩
    ·rw [if_neg (by omega)] at hE
     refine Aey ?_;refine Aar ?_;refine D9 ?_;refine Acx ?_;refine Aez ?_;refine D8 ?_;refine BV ?_;refine Aex ?_
     exact AX (k + 1) ⟨by omega,firstE_ok hI hE⟩ (by omega) covZ selZ
   ·rw [if_neg (by omega)] at hE
    refine Aey ?_;refine Aar ?_;refine DD ?_;refine Adq ?_;refine Ads ?_;refine Aex ?_
    exact AX (k + 1) ⟨by omega,firstE_ok hI hE⟩ (by omega) covZ selZ
 have hke:k = l.length:=by omega
 subst hke;rw [hI];refine Abl ?_;refine Aak ?_;exact AI (res1 rfl rfl) rsubZ selZ ⟨rfl,rfl⟩
set_option maxHeartbeats 32000000 in
theorem refBkCheck_spec (ρ τ σ:PH) (pq pc:Option Addr) (kq kc:Nat) (qs:List Int) (cs:List Ct) (v:Value) (l:List Bk) (hq:IntsAt ρ (.slice pq qs.length kq) qs) (hc:CtAt τ (.slice pc cs.length kc) cs) (hcap:cs.length ≤ kc) (lq:qs.length ≤ 9223372036854775807) (lc:cs.length ≤ 9223372036854775807) (hv:BkAt σ v l) (hl:l.length ≤ 9223372036854775807) :
  Ans Tryz.prog (fv 111) [.agg #[.slice pq qs.length kq,.slice pc cs.length kc],v] [ρ,τ,σ] (fun r=>r = int (chkB qs cs l)):=by
 have hv2:=hv
 obtain ⟨q,c,rfl,hr⟩:=hv.val encB_len
 refine spec_in (cap:=[]) Tryz.func111 rfl rfl Tryz.ntmps111 rfl envZ (fun N β=>?_)
 refine Aa ?_;refine BH (BM rfl) rfl rfl rfl ?_;rintro _ _ ⟨b1,rfl,rfl⟩;refine AT (ρ:=sng b1 _) takeZ ?_
 have c1:=rdB b1 25 [.slice pq qs.length kq,.slice pc cs.length kc]
 refine Abi ?_;refine Abp ?_;refine A3 (refPlanCheck_spec ρ τ pq pc kq kc qs cs hq hc lq lc) rfl rfl rdZ rfl rfl ?_;rintro _ rfl;unfold chkB
 by_cases hp:chkPl qs cs = 0
 rotate_left
 ·rw [if_pos hp]
  generalize chkPl qs cs = z at hp
  refine CK ?_;refine Aa4 ?_;exact AI (res1 rfl rfl) rsubZ selZ ⟨rfl,rfl⟩
 rw [if_neg (fun h=>h hp),hp]
 by_cases hbig:512 < l.length
 ·rw [if_pos hbig]
  refine Abb ?_;refine Ab ?_;refine CQ ?_;refine Aa4 ?_;exact AI (res1 rfl rfl) rsubZ selZ ⟨rfl,rfl⟩
 rw [if_neg hbig];refine Abb ?_;refine Ab ?_;refine B0 ?_;refine Aaj ?_;refine AC ?_;refine Ae ?_
 refine BA [1,2] (0:Nat) (fun k=>k ≤ l.length ∧ firstE (bkE cs l) k = 0) (fun k=>[(5,int k)]) (fun _=>[]) (fun k=>l.length - k) pickZ ⟨by omega,rfl⟩ covZ selZ ?_
 rintro k ⟨hk,hI⟩
 by_cases hlt:k < l.length
 ·have hx:=List.getElem?_eq_getElem hlt
  obtain ⟨b2,o2,rfl,hrd,g0,g1,g2,g3⟩:=bkRow hr hx
  have hE:=bkE_at (cs:=cs) hx
  generalize l[k] = x at hrd g0 g1 g2 g3 hE
  refine Aec ?_;refine AC ?_;refine AC ?_
  refine A8 (.q 0 (.q 1 (.q 2 (.q 3 (.q 4 (.l 5 .e (.q 6 .nil))))))) [] rfl (by kernel_rfl) Sel.nil ?_
  refine BQ ?_;refine Aeg ?_;refine B7 (CC rfl (refBkValid_spec τ pq pc qs.length kq kc cs x hc) rfl rfl rdZ rfl rfl ?_);rintro _ rfl
  cases hok:okBkB cs x with
  | false =>
   rw [if_pos hok] at hE
   have hh:=firstE_hit hI (by rw [hE]; decide) _ hlt
   rw [hh,hE];refine CV ?_;refine Add ?_;exact AI (res1 rfl rfl) rsubZ selZ ⟨rfl,rfl⟩
  | true =>
  rw [if_neg (by rw [hok]; simp)] at hE
  by_cases h0:k = 0
  ·subst h0
   rw [if_pos rfl] at hE;refine CV ?_;refine Aes ?_;refine AC ?_
   refine A8 (.q 0 (.q 1 (.q 2 (.q 3 (.q 4 (.q 5 (.q 6 (.q 7 (.q 8 (.q 9 (.q 10 (.q 11 (.q 12 (.q 13 (.q 14 (.q 15 .nil)))))))))))))))) [] rfl (by kernel_rfl) Sel.nil ?_
   refine AQ ?_;refine D9 ?_;refine Adq ?_;refine Aby ?_;refine BV ?_;refine Ab0 ?_;refine A6 rfl ?_;refine AA ?_;refine AB ?_;refine Ac9 ?_
   exact AX (0 + 1) ⟨by omega,firstE_ok hI hE⟩ (by omega) covZ selZ
  ·have hlt':k - 1 < l.length:=by omega
   have hx':=List.getElem?_eq_getElem hlt'
   obtain ⟨_,_,e,hrd',p0,p1,p2,p3⟩:=bkRow hr hx'
   simp only [Option.some.injEq,Addr.mk.injEq,and_true] at e
   obtain ⟨rfl,rfl⟩:=e
   rw [if_neg h0,List.getD_eq_getElem?_getD,hx',Option.getD_some] at hE
   generalize l[k - 1] = p at hrd' p0 p1 p2 p3 hE
   have hlt3:=cmpBk_lt p x
   unfold bk2E at hE;refine CV ?_;refine Aes ?_;refine AC ?_
   refine A8 (.q 0 (.q 1 (.q 2 (.q 3 (.q 4 (.q 5 (.q 6 (.q 7 (.q 8 (.q 9 (.q 10 (.q 11 (.q 12 (.q 13 (.q 14 (.q 15 .nil)))))))))))))))) [] rfl (by kernel_rfl) Sel.nil ?_
   by_cases e1:p.c < x.c
   ·rw [if_neg (fun h=>h (hlt3.2 (.inl e1))),if_neg (by omega)] at hE
    refine AQ ?_;refine DD ?_;refine Adv ?_;refine BI ?_;refine Acl ?_;refine Aey ?_;refine DW ?_;refine BZ ?_;refine Ab0 ?_;refine A6 rfl ?_;refine AA ?_;refine AB ?_;refine Ac9 ?_
    exact AX (k + 1) ⟨by omega,firstE_ok hI hE⟩ (by omega) covZ selZ
   refine AQ ?_;refine DD ?_;refine Adv ?_;refine BI ?_;refine Acl ?_;refine Aey ?_;refine DO ?_;refine BZ ?_;refine Aes ?_;refine AC ?_
   refine A8 (.q 0 (.q 1 (.q 2 (.q 3 (.q 4 (.q 5 (.q 6 (.q 7 (.q 8 (.q 9 (.q 10 (.q 11 (.q 12 (.q 13 (.q 14 (.q 15 (.q 16 (.q 17 (.q 18 (.q 19 (.q 20 (.q 21 (.q 22 (.q 23 (.q 24 (.q 25 .nil)))))))))))))))))))))))))) [] rfl (by kernel_rfl) Sel.nil ?_
   by_cases e2:x.c < p.c
   ·rw [if_pos (fun h=>by have:=hlt3.1 h; omega)] at hE
    have hh:=firstE_hit hI (by rw [hE]; decide) _ hlt
    rw [hh,hE];refine Acu ?_;refine Acl ?_;refine Aey ?_;refine FM ?_;refine Adq ?_;refine Aby ?_;refine BV ?_;refine Add ?_;exact AI (res1 rfl rfl) rsubZ selZ ⟨rfl,rfl⟩
   by_cases e3:x.a ≤ p.a
   ·rw [if_pos (fun h=>by have:=hlt3.1 h; omega)] at hE
    have hh:=firstE_hit hI (by rw [hE]; decide) _ hlt
    rw [hh,hE];refine Acu ?_;refine Acl ?_;refine Aey ?_;refine D8 ?_;refine Adv ?_;refine BI ?_;refine Ab8 ?_;refine Aez ?_;refine G4 ?_;refine BZ ?_;refine Add ?_;exact AI (res1 rfl rfl) rsubZ selZ ⟨rfl,rfl⟩
   rw [if_neg (fun h=>h (hlt3.2 (by omega)))] at hE
   refine Acu ?_;refine Acl ?_;refine Aey ?_;refine D8 ?_;refine Adv ?_;refine BI ?_;refine Ab8 ?_;refine Aez ?_;refine FY ?_;refine BZ ?_;refine Aes ?_
   refine A8 (.q 0 (.q 1 (.q 2 (.q 3 (.q 4 (.q 5 (.q 6 (.q 7 (.q 8 (.q 9 (.q 10 (.q 11 .nil)))))))))))) [] rfl (by kernel_rfl) Sel.nil ?_
   by_cases e4:x.a < p.b
   ·rw [if_pos (by omega)] at hE
    have hh:=firstE_hit hI (by rw [hE]; decide) _ hlt
    rw [hh,hE];refine Acu ?_;refine Ab8 ?_;refine Aez ?_;refine FM ?_;refine Add ?_;exact AI (res1 rfl rfl) rsubZ selZ ⟨rfl,rfl⟩
   ·rw [if_neg (by omega)] at hE
    refine Acu ?_;refine Ab8 ?_;refine Aez ?_;refine D8 ?_;refine Ab5 ?_;refine Adc ?_
    exact AX (k + 1) ⟨by omega,firstE_ok hI hE⟩ (by omega) covZ selZ
 have hke:k = l.length:=by omega
 subst hke;rw [hI];refine Ade ?_;refine Aef ?_;refine Aak ?_;exact AI (res1 rfl rfl) rsubZ selZ ⟨rfl,rfl⟩
end Go.Proofs.YtjehnjhkcmobcaaGreat
/- Spans in memory. -/
namespace Go.Proofs.YtjehnjhkcmobcaaGreat
open Go.Eng Go.Step
set_option maxRecDepth 100000
set_option maxHeartbeats 4000000

def encS (x:Int × Int):List Value:=[int x.1,int x.2]
theorem encS_len (x:Int × Int):(encS x).length = 2:=rfl
abbrev SpAt (ρ:PH) (v:Value) (l:List (Int × Int)):Prop:=SlE encS 2 ρ v l
theorem spRow {ρ:PH} {p:Option Addr} {l:List (Int × Int)} (h:RowsE encS 2 ρ p l) {i:Nat} {x:Int × Int} (hx:l[i]? = some x) :
  ∃ b o,p = some ⟨b,o,none⟩ ∧ RdN ρ b (o + i * 2) [int x.1,int x.2] ∧ rdc ρ b (o + i * 2) = some (int x.1) ∧ rdc ρ b (o + i * 2 + 1) = some (int x.2):=by
 obtain ⟨b,o,e,hr⟩:=h i x hx
 exact ⟨b,o,e,hr,hr.get0,hr.get (j:=1) rfl⟩
end Go.Proofs.YtjehnjhkcmobcaaGreat
/- Tables: checked; booked times. -/
namespace Go.Proofs.YtjehnjhkcmobcaaGreat
open Go.Eng Go.Step
set_option maxRecDepth 100000
set_option maxHeartbeats 4000000

structure TbAt (ρ τ σ υ:PH) (pq pc pb ph:Option Addr) (kq kc kb kh:Nat) (qs:List Int) (cs:List Ct) (bs:List Bk) (hs:List Hd):Prop where
 hq:IntsAt ρ (.slice pq qs.length kq) qs
 hc:CtAt τ (.slice pc cs.length kc) cs
 hcap:cs.length ≤ kc
 lq:qs.length ≤ 9223372036854775807
 lc:cs.length ≤ 9223372036854775807
 hb:BkAt σ (.slice pb bs.length kb) bs
 lb:bs.length ≤ 9223372036854775807
 hh:HdAt υ (.slice ph hs.length kh) hs
 lh:hs.length ≤ 9223372036854775807
theorem TbAt.rq {ρ τ σ υ:PH} {pq pc pb ph:Option Addr} {kq kc kb kh:Nat} {qs:List Int} {cs:List Ct} {bs:List Bk} {hs:List Hd} (hT:TbAt ρ τ σ υ pq pc pb ph kq kc kb kh qs cs bs hs):RowsE Eng.encI 1 ρ pq qs:=by
 obtain ⟨_,_,e,h⟩:=hT.hq.val Eng.encI_len
 simp only [Value.slice.injEq] at e;rw [e.1]; exact h
theorem TbAt.rc {ρ τ σ υ:PH} {pq pc pb ph:Option Addr} {kq kc kb kh:Nat} {qs:List Int} {cs:List Ct} {bs:List Bk} {hs:List Hd} (hT:TbAt ρ τ σ υ pq pc pb ph kq kc kb kh qs cs bs hs):RowsE encC 7 τ pc cs:=by
 obtain ⟨_,_,e,h⟩:=hT.hc.val encC_len
 simp only [Value.slice.injEq] at e;rw [e.1]; exact h
theorem TbAt.rh {ρ τ σ υ:PH} {pq pc pb ph:Option Addr} {kq kc kb kh:Nat} {qs:List Int} {cs:List Ct} {bs:List Bk} {hs:List Hd} (hT:TbAt ρ τ σ υ pq pc pb ph kq kc kb kh qs cs bs hs):RowsE encH 5 υ ph hs:=by
 obtain ⟨_,_,e,h⟩:=hT.hh.val encH_len
 simp only [Value.slice.injEq] at e;rw [e.1]; exact h
set_option maxHeartbeats 16000000 in
theorem chkTab_spec {ρ τ σ υ:PH} {pq pc pb ph:Option Addr} {kq kc kb kh:Nat} {qs:List Int} {cs:List Ct} {bs:List Bk} {hs:List Hd} (hT:TbAt ρ τ σ υ pq pc pb ph kq kc kb kh qs cs bs hs) :
  Ans Tryz.prog (fv 11) [.agg #[.slice pq qs.length kq,.slice pc cs.length kc,.slice pb bs.length kb,.slice ph hs.length kh]] [ρ,τ,σ,υ] (fun r=>r = int (chkT qs cs bs hs)):=by
 refine spec_in (cap:=[]) Tryz.func11 rfl rfl Tryz.ntmps11 rfl envZ (fun N β=>?_)
 refine Aa ?_;refine BH (BM rfl) rfl rfl rfl ?_;rintro _ _ ⟨b1,rfl,rfl⟩;refine AT (ρ:=sng b1 _) takeZ ?_
 have ct:=rdB b1 29 [.slice pq qs.length kq,.slice pc cs.length kc,.slice pb bs.length kb,.slice ph hs.length kh]
 have ct0:=rdC ct 0
 have ct1:=rdC ct 1
 have ct2:=rdC ct 2
 have ct3:=rdC ct 3
 have ctp:RdP (sng b1 (.cells #[.slice pq qs.length kq,.slice pc cs.length kc,.slice pb bs.length kb,.slice ph hs.length kh] 29 (0,0))) b1 0 [.slice pq qs.length kq,.slice pc cs.length kc]:=rdP_sng (xs:=[.slice pq qs.length kq,.slice pc cs.length kc,.slice pb bs.length kb,.slice ph hs.length kh]) rfl
 refine Abi ?_;refine Aci ?_;refine AS ?_;refine A3 (planCheck_spec ρ τ pq pc kq kc qs cs hT.hq hT.hc hT.hcap hT.lq hT.lc) rfl rfl rdZ rfl rfl ?_;rintro _ rfl;unfold chkT
 by_cases h1:chkPl qs cs = 0
 rotate_left
 ·rw [if_pos h1]
  generalize chkPl qs cs = z at h1
  refine Aej ?_;refine Abs ?_;exact AI (res1 rfl rfl) rsubZ selZ ⟨rfl,rfl⟩
 rw [if_neg (fun h=>h h1),h1]
 refine Ad4 ?_;refine AC ?_;refine Aci ?_;refine AS ?_;refine Aac ?_;refine A3 (bkCheck_spec ρ τ σ pq pc kq kc qs cs _ bs hT.hq hT.hc hT.hcap hT.lq hT.lc hT.hb hT.lb) rfl rfl rdZ rfl rfl ?_;rintro _ rfl
 by_cases h2:chkB qs cs bs = 0
 rotate_left
 ·rw [if_pos h2]
  generalize chkB qs cs bs = z at h2
  refine Aej ?_;refine Abs ?_;exact AI (res1 rfl rfl) rsubZ selZ ⟨rfl,rfl⟩
 rw [if_neg (fun h=>h h2),h2]
 refine Ad4 ?_;refine Aci ?_;refine AS ?_;refine Aac ?_;refine A3 (check28_spec ρ τ υ pq pc kq kc qs cs _ hs hT.hq hT.hc hT.hcap hT.lq hT.lc hT.hh hT.lh) rfl rfl rdZ rfl rfl ?_;rintro _ rfl;refine Aaa ?_;exact AI (res1 rfl rfl) rsubZ selZ ⟨rfl,rfl⟩
set_option maxHeartbeats 16000000 in
theorem refChkTab_spec {ρ τ σ υ:PH} {pq pc pb ph:Option Addr} {kq kc kb kh:Nat} {qs:List Int} {cs:List Ct} {bs:List Bk} {hs:List Hd} (hT:TbAt ρ τ σ υ pq pc pb ph kq kc kb kh qs cs bs hs) :
  Ans Tryz.prog (fv 49) [.agg #[.slice pq qs.length kq,.slice pc cs.length kc,.slice pb bs.length kb,.slice ph hs.length kh]] [ρ,τ,σ,υ] (fun r=>r = int (chkT qs cs bs hs)):=by
 refine spec_in (cap:=[]) Tryz.func49 rfl rfl Tryz.ntmps49 rfl envZ (fun N β=>?_)
 refine Aa ?_;refine BH (BM rfl) rfl rfl rfl ?_;rintro _ _ ⟨b1,rfl,rfl⟩;refine AT (ρ:=sng b1 _) takeZ ?_
 have ct:=rdB b1 29 [.slice pq qs.length kq,.slice pc cs.length kc,.slice pb bs.length kb,.slice ph hs.length kh]
 have ct0:=rdC ct 0
 have ct1:=rdC ct 1
 have ct2:=rdC ct 2
 have ct3:=rdC ct 3
 have ctp:RdP (sng b1 (.cells #[.slice pq qs.length kq,.slice pc cs.length kc,.slice pb bs.length kb,.slice ph hs.length kh] 29 (0,0))) b1 0 [.slice pq qs.length kq,.slice pc cs.length kc]:=rdP_sng (xs:=[.slice pq qs.length kq,.slice pc cs.length kc,.slice pb bs.length kb,.slice ph hs.length kh]) rfl
 refine Abi ?_;refine Aci ?_;refine AS ?_;refine A3 (refPlanCheck_spec ρ τ pq pc kq kc qs cs hT.hq hT.hc hT.lq hT.lc) rfl rfl rdZ rfl rfl ?_;rintro _ rfl;unfold chkT
 by_cases h1:chkPl qs cs = 0
 rotate_left
 ·rw [if_pos h1]
  generalize chkPl qs cs = z at h1
  refine Aej ?_;refine Abs ?_;exact AI (res1 rfl rfl) rsubZ selZ ⟨rfl,rfl⟩
 rw [if_neg (fun h=>h h1),h1]
 refine Ad4 ?_;refine AC ?_;refine Aci ?_;refine AS ?_;refine Aac ?_;refine A3 (refBkCheck_spec ρ τ σ pq pc kq kc qs cs _ bs hT.hq hT.hc hT.hcap hT.lq hT.lc hT.hb hT.lb) rfl rfl rdZ rfl rfl ?_;rintro _ rfl
 by_cases h2:chkB qs cs bs = 0
 rotate_left
 ·rw [if_pos h2]
  generalize chkB qs cs bs = z at h2
  refine Aej ?_;refine Abs ?_;exact AI (res1 rfl rfl) rsubZ selZ ⟨rfl,rfl⟩
 rw [if_neg (fun h=>h h2),h2]
 refine Ad4 ?_;refine Aci ?_;refine AS ?_;refine Aac ?_;refine A3 (refCheck28_spec ρ τ υ pq pc kq kc qs cs _ hs hT.hq hT.hc hT.lq hT.lc hT.hh hT.lh) rfl rfl rdZ rfl rfl ?_;rintro _ rfl;refine Aaa ?_;exact AI (res1 rfl rfl) rsubZ selZ ⟨rfl,rfl⟩
theorem indexS_spec (ρ:PH) (Rs:List PH) (v fn:Value) (l:List (Int × Int)) (p:(Int × Int) → Bool) (hv:SlE encS 2 ρ v l) (hl:l.length ≤ 9223372036854775807) (hfn:∀ (i:Nat) (x:(Int × Int)),l[i]? = some x → Ans Tryz.prog fn [.agg (encS x).toArray] Rs (fun r=>r = .bool (p x))) :
  Ans Tryz.prog (fv 134) [v,fn] (ρ :: Rs) (fun r=>(∃ (i:Nat) (x:(Int × Int)),l[i]? = some x ∧ p x = true ∧ (∀ (j:Nat) (y:(Int × Int)),j < i → l[j]? = some y → p y = false) ∧ r = int i) ∨ ((∀ x ∈ l,p x = false) ∧ r = int (-1))):=by
 obtain ⟨q,c,rfl,hr⟩:=hv.val encS_len
 refine spec_in (cap:=[]) Tryz.func134 rfl rfl Tryz.ntmps134 rfl envZ (fun N β=>?_)
 refine Acy ?_
 refine BA [0,1,7] (0:Nat) (fun k=>k ≤ l.length ∧ ∀ (i:Nat) (x:(Int × Int)),i < k → l[i]? = some x → p x = false) (fun k=>[(8,int k)]) (fun _=>[]) (fun k=>l.length - k) pickZ ⟨by omega,fun i x h=>by omega⟩ covZ selZ ?_
 rintro k ⟨hk,hI⟩
 by_cases hlt:k < l.length
 ·have hx:=List.getElem?_eq_getElem hlt
  obtain ⟨b1,o1,rfl,hrd⟩:=hr k _ hx
  have hrd2:RdN ρ b1 (o1 + k * 2) (encS l[k]):=hrd
  have hf:=hfn k _ hx
  refine Ab3 ?_;refine Aa8 ?_;refine Aa1 ?_;refine Abc ?_
  refine A3 hf rfl rfl (fun τ hτ=>.inl (by simp [hτ])) rfl rfl ?_
  rintro _ rfl
  cases hp:p l[k] with
  | true =>
   refine Aah ?_;refine Abs ?_;exact AI (res1 rfl rfl) rsubZ selZ ⟨rfl,.inl ⟨k,l[k],hx,hp,hI,rfl⟩⟩
  | false =>
   refine Ac5 ?_
   refine AX (k + 1) ⟨by omega,fun i x hi hix=>?_⟩ (by omega) covZ selZ
   by_cases e:i = k
   ·subst e; rw [hx] at hix; injection hix with hix; rw [← hix]; exact hp
   ·exact hI i x (by omega) hix
 ·refine AC ?_
  refine Adz ?_;refine Aak ?_
  refine AI (res1 rfl rfl) rsubZ selZ ⟨rfl,.inr ⟨fun x hx=>?_,rfl⟩⟩
  obtain ⟨i,hi,rfl⟩:=List.getElem_of_mem hx
  exact hI i _ (by omega) (List.getElem?_eq_getElem hi)
theorem contS_spec (ρ:PH) (Rs:List PH) (v fn:Value) (l:List (Int × Int)) (p:(Int × Int) → Bool) (hv:SlE encS 2 ρ v l) (hl:l.length ≤ 9223372036854775807) (hfn:∀ (i:Nat) (x:(Int × Int)),l[i]? = some x → Ans Tryz.prog fn [.agg (encS x).toArray] Rs (fun r=>r = .bool (p x))) :
  Ans Tryz.prog (fv 81) [v,fn] (ρ :: Rs) (fun r=>r = .bool (l.any p)):=by
 have hix:=indexS_spec ρ Rs v fn l p hv hl hfn
 obtain ⟨q,c,rfl,hr⟩:=hv.val encS_len
 refine spec_in (cap:=[]) Tryz.func81 rfl rfl Tryz.ntmps81 rfl envZ (fun N β=>?_)
 refine Aak ?_;refine Abn ?_
 refine A3 hix rfl rfl (fun τ hτ=>.inl (List.mem_cons_of_mem _ hτ)) rfl rfl ?_
 rintro _ (⟨i,x,hi,hp,_,rfl⟩ | ⟨hall2,rfl⟩)
 ·have hfl:l.any p = true:=List.any_eq_true.2 ⟨x,List.mem_of_getElem? hi,hp⟩
  refine CL ?_;refine Aaa ?_
  exact AI (res1 rfl rfl) rsubZ selZ ⟨rfl,by rw [hfl]⟩
 ·have hfl:l.any p = false:=List.any_eq_false.2 (fun x hx=>by rw [hall2 x hx]; simp)
  refine BL ?_;refine Aaa ?_
  exact AI (res1 rfl rfl) rsubZ selZ ⟨rfl,by rw [hfl]⟩
set_option maxHeartbeats 16000000 in
theorem busy_spec (ρ:PH) (v:Value) (l:List Bk) (c:Int) (hv:BkAt ρ v l) (hl:l.length ≤ 1000) :
  Makes Tryz.prog (fv 80) [v,int c] [ρ] (fun r σ=>OwnS 152 2 r (busyL l c).length ((busyL l c).flatMap encS) σ):=by
 obtain ⟨q,cc,rfl,hr⟩:=hv.val encB_len
 refine spec_in (cap:=[]) Tryz.func80 rfl rfl Tryz.ntmps80 rfl envZ (fun N β=>?_)
 refine BY ?_;refine Aek ?_
 refine BA [1,8,9] (X:=Nat × (Value × PH)) (0,(.slice none 0 0,emp)) (fun x=>x.1 ≤ l.length ∧ OwnS 152 2 x.2.1 (busyL (l.take x.1) c).length ((busyL (l.take x.1) c).flatMap encS) x.2.2) (fun x=>[(10,int x.1),(5,x.2.1)]) (fun x=>[x.2.2]) (fun x=>l.length - x.1) pickZ ⟨by dsimp only; omega,OwnS.nil _ _⟩ covZ selZ ?_
 rintro ⟨k,u,σ⟩ ⟨hk,hO⟩
 dsimp only at hk hO ⊢
 by_cases hlt:k < l.length
 ·have hx:=List.getElem?_eq_getElem hlt
  have hn:=busyL_next c hx
  have hrl:=busyL_len (l.take k) c
  rw [List.length_take,Nat.min_eq_left hk] at hrl
  obtain ⟨b1,o1,rfl,hRd1,g0,g1,g2,g3⟩:=bkRow hr hx
  generalize l[k] = x at hRd1 g0 g1 g2 g3 hn
  by_cases hc:x.c = c
  rotate_left
  ·rw [if_neg hc,List.append_nil] at hn
   refine Ab1 ?_;refine AY ?_; rintro _ _ ⟨b,rfl,rfl⟩;refine AU ?_; rintro _ _ ⟨rfl,rfl⟩;refine AE ?_;refine Ad0 ?_;refine CI ?_;refine Ac5 ?_
   exact AX (k + 1,(u,σ)) ⟨by dsimp only; omega,by dsimp only; rw [hn]; exact hO⟩ (by dsimp only; omega) covZ selZ
  ·rw [if_pos hc] at hn
   refine Ab1 ?_;refine AY ?_; rintro _ _ ⟨b,rfl,rfl⟩;refine AU ?_; rintro _ _ ⟨rfl,rfl⟩;refine AE ?_;refine Ad0 ?_;refine Aea ?_;refine AA ?_;refine Aa5 ?_;refine BR ?_;refine BD ?_; rintro _ _ ⟨b,rfl,rfl⟩
   refine BH (B8 (by_:=16) (s:=2) (news:=[int x.a,int x.b]) rfl rfl rfl rfl rfl rfl rfl hO takeZ (cells_own memZ) rfl (by (repeat (first | exact (fun v hv=>absurd hv List.not_mem_nil) | (refine List.forall_mem_cons.2 ⟨?_,?_⟩; (focus (first | exact rfl | assumption))))); first | done | fail) (by omega) (by simp only [maxLen]; omega) (by omega)) rfl rfl rfl ?_
   rintro u1 _ ⟨σ1,hO1,rfl⟩;refine Adp ?_
   refine AX (k + 1,(u1,σ1)) ⟨by dsimp only; omega,?_⟩ (by dsimp only; omega) covZ selZ
   dsimp only
   rw [hn,List.length_append,List.flatMap_append];exact hO1
 ·have hke:k = l.length:=by omega
  subst hke;rw [List.take_length] at hO;refine Ael ?_;exact AI (res1 rfl rfl) rsubZ selZ ⟨σ,hO,rfl⟩
end Go.Proofs.YtjehnjhkcmobcaaGreat
/- Demands, shipments, stocks. No program in sight. No conditions. -/
namespace Go.Step
structure Dm where
  s:Int
  d:Int
  v:Int
  r:Int
  e:Int
deriving DecidableEq
structure Sh where
  c:Int
  t:Int
  n:Int
deriving DecidableEq
def okDm (nq:Nat) (d:Dm):Prop:=(0 ≤ d.s ∧ d.s < nq) ∧ (0 ≤ d.d ∧ d.d < nq) ∧ d.s ≠ d.d ∧ (1 ≤ d.v ∧ d.v ≤ 1099511627776) ∧ (0 ≤ d.r ∧ d.r < d.e ∧ d.e ≤ 1099511627776 ∧ d.e - d.r ≤ 100)
instance (nq:Nat) (d:Dm):Decidable (okDm nq d):=inferInstanceAs (Decidable (_ ∧ _))
def validT (qs:List Int) (cs:List Ct) (bs:List Bk) (hs:List Hd) (d:Dm):Bool:=decide (chkT qs cs bs hs = 0 ∧ okDm qs.length d)
def ship1 (cs:List Ct) (bs:List Bk) (d:Dm) (x:Sh):Int:=
  if x.c < 0 ∨ (cs.length:Int) ≤ x.c then 2 else match cs[x.c.toNat]? with
    | none=>2
    | some c=>if x.t < d.r ∨ x.t < c.s ∨ c.e ≤ x.t ∨ x.n < 1 ∨ c.r < x.n then 2 else if d.e < x.t + 1 + c.g then 16 else if bookedB bs x.c x.t then 14 else 0
def sameSl (x y:Sh):Bool:=decide (x.c = y.c ∧ x.t = y.t)
def shipE (cs:List Ct) (bs:List Bk) (d:Dm) (l:List Sh) (i:Nat):Int:=match l[i]? with
  | none=>0
  | some x=>if ship1 cs bs d x ≠ 0 then ship1 cs bs d x else if (l.take i).any (sameSl x) then 14 else 0
theorem shipE_at {cs:List Ct} {bs:List Bk} {d:Dm} {l:List Sh} {i:Nat} {x:Sh} (h:l[i]? = some x):shipE cs bs d l i = if ship1 cs bs d x ≠ 0 then ship1 cs bs d x else if (l.take i).any (sameSl x) then 14 else 0:=by unfold shipE; rw [h]
def ctOf (cs:List Ct) (x:Sh):Ct:=cs.getD x.c.toNat ⟨0,0,0,0,0,0,0⟩
def arrOf (cs:List Ct) (x:Sh):Int:=x.t + 1 + (ctOf cs x).g
def stk1 (cs:List Ct) (d:Dm) (n t:Int) (x:Sh):Int:=
  if n = d.s then (if (ctOf cs x).f = n ∧ t < x.t then x.n else 0) - (if (ctOf cs x).t = n ∧ t < arrOf cs x then x.n else 0)
  else (if (ctOf cs x).t = n ∧ arrOf cs x ≤ t then x.n else 0) - (if (ctOf cs x).f = n ∧ x.t ≤ t then x.n else 0)
def stock (cs:List Ct) (d:Dm) (n t:Int):List Sh → Int
  | []=>0
  | x :: l=>stk1 cs d n t x + stock cs d n t l
theorem stock_append (cs:List Ct) (d:Dm) (n t:Int) (a b:List Sh):stock cs d n t (a ++ b) = stock cs d n t a + stock cs d n t b:=by
  induction a with
  | nil=>simp [stock]
  | cons x a ih=>simp only [List.cons_append,stock,ih]; omega
def roomT (qs:List Int) (hs:List Hd) (d:Dm) (n t:Int):Int:=if n = d.s ∨ n = d.d then 1099511627776 else qs.getD n.toNat 0 - stored hs n t
def confAt (cs:List Ct) (d:Dm) (l:List Sh) (n t:Int):Bool:=decide (stock cs d n t l < 0 ∨ (t = d.e ∧ n ≠ d.s ∧ n ≠ d.d ∧ stock cs d n t l ≠ 0))
def fullAt (qs:List Int) (cs:List Ct) (hs:List Hd) (d:Dm) (l:List Sh) (n t:Int):Bool:=decide (roomT qs hs d n t < stock cs d n t l)
def anyT (p:Int → Bool) (a:Int) (m:Nat):Bool:=(List.range m).any (fun k=>p (a + k))
theorem anyT_none {p:Int → Bool} {a:Int} {m:Nat}:anyT p a m = false ↔ ∀ k:Nat,k < m → p (a + k) = false:=by
  unfold anyT;rw [List.any_eq_false]
  constructor
  · intro h k hk
    have:=h k (by simpa using hk)
    simpa using this
  · intro h k hk
    have:=h k (by simpa using hk)
    simp [this]
def conflB (nq:Nat) (cs:List Ct) (d:Dm) (l:List Sh):Bool:=anyT (fun n=>anyT (confAt cs d l n) d.r (d.e - d.r + 1).toNat) 0 nq
def fullB (qs:List Int) (cs:List Ct) (hs:List Hd) (d:Dm) (l:List Sh):Bool:=anyT (fun n=>anyT (fullAt qs cs hs d l n) d.r (d.e - d.r).toNat) 0 qs.length
def flowR (qs:List Int) (cs:List Ct) (bs:List Bk) (hs:List Hd) (d:Dm) (l:List Sh):Int × Int:=
  if validT qs cs bs hs d = false then (0,1)
  else if firstE (shipE cs bs d l) l.length ≠ 0 then (0,firstE (shipE cs bs d l) l.length)
  else if conflB qs.length cs d l then (0,24) else if fullB qs cs hs d l then (0,15) else (stock cs d d.d d.e l,0)
end Go.Step
/- The table of stocks, change by change. No program in sight. No conditions. -/
namespace Go.Step
end Go.Step
/- Sets of integers as spans. No program in sight. No conditions. -/
namespace Go.Step
def okSp (x:Int × Int):Prop:=x.1 < x.2 ∧ -1152921504606846976 ≤ x.1 ∧ x.2 ≤ 1152921504606846976
instance (x:Int × Int):Decidable (okSp x):=inferInstanceAs (Decidable (_ ∧ _))
def spE (l:List (Int × Int)) (i:Nat):Int:=match l[i]? with
  | some x=>if ¬ okSp x then 2 else if 0 < i ∧ x.1 ≤ (l.getD (i - 1) x).2 then 9 else 0
  | none=>0
theorem spE_at {l:List (Int × Int)} {i:Nat} {x:Int × Int} (e:l[i]? = some x):spE l i = if ¬ okSp x then 2 else if 0 < i ∧ x.1 ≤ (l.getD (i - 1) x).2 then 9 else 0:=by unfold spE; rw [e]
def chkI (l:List (Int × Int)):Int:=if 1000 < l.length then 4 else firstE (spE l) l.length
def inSp (t:Int) (x:Int × Int):Bool:=decide (x.1 ≤ t) && decide (t < x.2)
end Go.Step
/- Sets of integers: checked, asked. -/
namespace Go.Proofs.YtjehnjhkcmobcaaGreat
open Go.Eng Go.Step
set_option maxRecDepth 100000
set_option maxHeartbeats 4000000

theorem ivValid_spec (x:Int × Int):Ans Tryz.prog (fv 205) [.agg #[int x.1,int x.2]] [] (fun r=>r = .bool (decide (okSp x))):=by
 refine spec_in (cap:=[]) Tryz.func205 rfl rfl Tryz.ntmps205 rfl envZ (fun N β=>?_)
 by_cases h1:x.1 < x.2
 ·by_cases h2:-1152921504606846976 ≤ x.1
  ·by_cases h3:x.2 ≤ 1152921504606846976
   ·rw [decide_eq_true (show okSp x from ⟨h1,h2,h3⟩)]
    refine Aa ?_;refine CD ?_; rintro _ _ ⟨b,rfl,rfl⟩;refine Aen ?_;refine BB ?_;refine Aag ?_;refine CL ?_;refine Ac4 ?_;refine CU ?_;refine Ab2 ?_;exact AI (res1 rfl rfl) rsubZ selZ ⟨rfl,rfl⟩
   ·rw [decide_eq_false (fun h:okSp x=>h3 h.2.2)]
    refine Aa ?_;refine CD ?_; rintro _ _ ⟨b,rfl,rfl⟩;refine Aen ?_;refine BB ?_;refine Aag ?_;refine CL ?_;refine Ac4 ?_;refine CZ ?_;refine Ab2 ?_;exact AI (res1 rfl rfl) rsubZ selZ ⟨rfl,rfl⟩
  ·rw [decide_eq_false (fun h:okSp x=>h2 h.2.1)]
   refine Aa ?_;refine CD ?_; rintro _ _ ⟨b,rfl,rfl⟩;refine Aen ?_;refine BB ?_;refine Aag ?_;refine BL ?_;refine AN ?_;refine Abf ?_;refine Ab4 ?_;exact AI (res1 rfl rfl) rsubZ selZ ⟨rfl,rfl⟩
 ·rw [decide_eq_false (fun h:okSp x=>h1 h.1)]
  refine Aa ?_;refine CD ?_; rintro _ _ ⟨b,rfl,rfl⟩;refine Aen ?_;refine A0 ?_;refine Aeb ?_;refine Abf ?_;refine Ab4 ?_;exact AI (res1 rfl rfl) rsubZ selZ ⟨rfl,rfl⟩
set_option maxHeartbeats 16000000 in
theorem ivCheck_spec (ρ:PH) (v:Value) (l:List (Int × Int)) (hv:SpAt ρ v l) (hl:l.length ≤ 9223372036854775807) :
  Ans Tryz.prog (fv 175) [v] [ρ] (fun r=>r = int (chkI l)):=by
 obtain ⟨q,c,rfl,hr⟩:=hv.val encS_len
 refine spec_in (cap:=[]) Tryz.func175 rfl rfl Tryz.ntmps175 rfl envZ (fun N β=>?_)
 unfold chkI
 by_cases hbig:1000 < l.length
 ·rw [if_pos hbig]
  refine Aak ?_;refine Ab ?_;refine CQ ?_;refine Aa4 ?_;exact AI (res1 rfl rfl) rsubZ selZ ⟨rfl,rfl⟩
 rw [if_neg hbig];refine Aak ?_;refine Ab ?_;refine B0 ?_;refine Aaj ?_;refine Abt ?_
 refine BA [0,8,9] (0:Nat) (fun k=>k ≤ l.length ∧ firstE (spE l) k = 0) (fun k=>[(10,int k)]) (fun _=>[]) (fun k=>l.length - k) pickZ ⟨by omega,rfl⟩ covZ selZ ?_
 rintro k ⟨hk,hI⟩
 by_cases hlt:k < l.length
 ·have hx:=List.getElem?_eq_getElem hlt
  obtain ⟨b4,o4,rfl,hrd,g0,g1⟩:=spRow hr hx
  have hE:=spE_at hx
  generalize l[k] = x at hrd g0 g1 hE
  refine Ado ?_;refine AY ?_; rintro _ _ ⟨b,rfl,rfl⟩;refine AD ?_;refine AU ?_; rintro _ _ ⟨rfl,rfl⟩;refine Aal ?_;refine Abp ?_
  revert b; intro b6
  refine A3 (ivValid_spec x) rfl rfl rdZ rfl rfl ?_;rintro _ rfl
  by_cases hok:okSp x
  rotate_left
  ·rw [if_pos hok] at hE
   have hh:=firstE_hit hI (by rw [hE]; decide) _ hlt
   rw [hh,hE,decide_eq_false hok];refine BE ?_;refine Aa4 ?_;exact AI (res1 rfl rfl) rsubZ selZ ⟨rfl,rfl⟩
  rw [if_neg (fun h=>h hok)] at hE
  rw [decide_eq_true hok];refine Acb ?_;refine AC ?_
  refine A8 (.q 0 (.q 1 (.q 2 (.q 3 (.q 4 (.q 5 (.q 6 (.q 7 (.q 8 (.q 9 (.q 10 (.q 11 (.q 12 .nil))))))))))))) [sng b6 _] rfl (by kernel_rfl) selZ ?_
  by_cases h0:k = 0
  ·subst h0
   rw [if_neg (by omega)] at hE
   refine AQ ?_;refine DO ?_;refine Adq ?_;refine Ads ?_;refine Aex ?_
   exact AX (0 + 1) ⟨by omega,firstE_ok hI hE⟩ (by omega) covZ selZ
  ·have hx':=List.getElem?_eq_getElem (show k - 1 < l.length by omega)
   obtain ⟨_,_,e,_,p0,p1⟩:=spRow hr hx'
   simp only [Option.some.injEq,Addr.mk.injEq,and_true] at e
   obtain ⟨rfl,rfl⟩:=e
   rw [List.getD_eq_getElem?_getD,hx',Option.getD_some] at hE
   generalize l[k - 1] = p at p0 p1 hE
   by_cases h9:x.1 ≤ p.2
   ·rw [if_pos ⟨by omega,h9⟩] at hE
    have hh:=firstE_hit hI (by rw [hE]; decide) _ hlt
    rw [hh,hE];refine AQ ?_;refine DW ?_;refine Acx ?_;refine Aez ?_;refine G4 ?_;refine BV ?_;refine Add ?_;exact AI (res1 rfl rfl) rsubZ selZ ⟨rfl,rfl⟩
   ·rw [if_neg (fun h=>h9 h.2)] at hE
    refine AQ ?_;refine DW ?_;refine Acx ?_;refine Aez ?_;refine FY ?_;refine BV ?_;refine Aex ?_
    exact AX (k + 1) ⟨by omega,firstE_ok hI hE⟩ (by omega) covZ selZ
 have hke:k = l.length:=by omega
 subst hke;rw [hI];refine Abl ?_;refine Aak ?_;exact AI (res1 rfl rfl) rsubZ selZ ⟨rfl,rfl⟩
end Go.Proofs.YtjehnjhkcmobcaaGreat
/- Demands: checked. -/
namespace Go.Proofs.YtjehnjhkcmobcaaGreat
open Go.Eng Go.Step
set_option maxRecDepth 100000
set_option maxHeartbeats 4000000

theorem chkPl_ct {qs:List Int} {cs:List Ct} (h:chkPl qs cs = 0):cs.length ≤ 64 ∧ ∀ c ∈ cs,chkCt c = 0 ∧ c.f < qs.length ∧ c.t < qs.length:=by
 unfold chkPl at h
 by_cases h1:qs.length < 1 ∨ 16 < qs.length ∨ 64 < cs.length
 ·rw [if_pos h1] at h; omega
 rw [if_neg h1] at h
 by_cases h2:firstE (quoE qs) qs.length = 0
 ·rw [if_neg (by simpa using h2)] at h
  refine ⟨by omega,fun c hc=>?_⟩
  obtain ⟨i,hi,rfl⟩:=List.getElem_of_mem hc
  have h3:=firstE_zero h i hi
  rw [ctE_at (List.getElem?_eq_getElem hi)] at h3
  by_cases h4:chkCt cs[i] = 0
  ·rw [if_neg (by simpa using h4)] at h3
   by_cases h5:(qs.length:Int) ≤ cs[i].f ∨ (qs.length:Int) ≤ cs[i].t
   ·rw [if_pos h5] at h3; omega
   ·exact ⟨h4,by omega,by omega⟩
  ·rw [if_pos h4] at h3; exact absurd h3 h4
 ·rw [if_pos h2] at h; exact absurd h h2
theorem chkCt_all {c:Ct} (h:chkCt c = 0):(0 ≤ c.f ∧ c.f ≤ 15) ∧ (0 ≤ c.t ∧ c.t ≤ 15) ∧ (0 ≤ c.s ∧ c.s < c.e ∧ c.e ≤ 1099511627776) ∧ (1 ≤ c.r ∧ c.r ≤ 1000) ∧ (1 ≤ c.g ∧ c.g ≤ 1048576):=by
 have h2:=chkCt_se h
 unfold chkCt at h
 by_cases h1:okCt c
 ·unfold okCt at h1
  exact ⟨h1.1,h1.2.1,h2,h1.2.2.1,h1.2.2.2.1⟩
 ·rw [if_pos h1] at h; omega
end Go.Proofs.YtjehnjhkcmobcaaGreat
/- Rooms, arrivals, shipments. -/
namespace Go.Proofs.YtjehnjhkcmobcaaGreat
open Go.Eng Go.Step
set_option maxRecDepth 100000
set_option maxHeartbeats 4000000

def encX (x:Sh):List Value:=[int x.c,int x.t,int x.n]
theorem encX_len (x:Sh):(encX x).length = 3:=rfl
abbrev ShAt (ρ:PH) (v:Value) (l:List Sh):Prop:=SlE encX 3 ρ v l
theorem shRow {ρ:PH} {p:Option Addr} {l:List Sh} (h:RowsE encX 3 ρ p l) {i:Nat} {x:Sh} (hx:l[i]? = some x) :
  ∃ b o,p = some ⟨b,o,none⟩ ∧ RdN ρ b (o + i * 3) [int x.c,int x.t,int x.n] ∧ rdc ρ b (o + i * 3) = some (int x.c) ∧ rdc ρ b (o + i * 3 + 1) = some (int x.t) ∧ rdc ρ b (o + i * 3 + 2) = some (int x.n):=by
 obtain ⟨b,o,e,hr⟩:=h i x hx
 exact ⟨b,o,e,hr,hr.get0,hr.get (j:=1) rfl,hr.get (j:=2) rfl⟩
end Go.Proofs.YtjehnjhkcmobcaaGreat
/- Cuts and their capacities. No program in sight. No conditions. -/
namespace Go.Step
abbrev Cu:=List (List (Int × Int))
def cuAt (c:Cu) (n:Int):List (Int × Int):=c.getD n.toNat []
def sumT (f:Int → Int) (a:Int):Nat → Int
  | 0=>0
  | m + 1=>sumT f a m + f (a + m)
theorem sumT_congr {f g:Int → Int} {a:Int}:∀ {m:Nat},(∀ k:Nat,k < m → f (a + k) = g (a + k)) → sumT f a m = sumT g a m
  | 0,_=>rfl
  | m + 1,h=>by rw [sumT,sumT,sumT_congr (m:=m) (fun k hk=>h k (Nat.lt_succ_of_lt hk)),h m (Nat.lt_succ_self m)]
def sumU (f:Int → Int) (a t:Int):Int:=sumT f a (t - a).toNat
end Go.Step
/- What crosses a cut. -/
namespace Go.Proofs.YtjehnjhkcmobcaaGreat
open Go.Eng Go.Step
set_option maxRecDepth 100000
set_option maxHeartbeats 4000000

def CutRow (ρ κ:PH) (p:Option Addr) (c:Cu):Prop:=∀ (i:Nat) (l:List (Int × Int)),c[i]? = some l → ∃ b o q k,p = some ⟨b,o,none⟩ ∧ rdc ρ b (o + i) = some (.slice q l.length k) ∧ SpAt κ (.slice q l.length k) l ∧ l.length ≤ 9223372036854775807
end Go.Proofs.YtjehnjhkcmobcaaGreat
/- Arguments that are slices: their room. No conditions. -/
namespace Go.Eng
open Go.ChangeShapes Go.WideShapes Go.RowKit
variable {P:Program} {W:World} {t:TypeId}
theorem RdT.capOK {e:TypeId} {v:Value} (ht:P.underlying t = some (.slice e)) (h:RdT P W t [v]):CapOK v:=by
  obtain ⟨H,enc,fuel,x,h⟩:=h
  rcases Deep.open_slice ht h with ⟨e,_⟩ | ⟨a,len,cap,m,n,D,Pl,e,_,hlc,_⟩
  · simp only [List.cons.injEq,and_true] at e
    exact ⟨_,_,_,e,Nat.le_refl _⟩
  · simp only [List.cons.injEq,and_true] at e
    exact ⟨_,_,_,e,hlc⟩
end Go.Eng
/- The rows: each law, for every input. -/
namespace Go.Proofs.YtjehnjhkcmobcaaGreat
open Go.Eng Go.Step
set_option maxRecDepth 100000
set_option maxHeartbeats 4000000
open Go.ChangeShapes Go.WideShapes Go.ChangeAt Go.RowKit

theorem Tryz.own:ownKnob Tryz.prog.godebug = none:=by kernel_rfl
theorem Tryz.laidOut:laidOutB Tryz.prog = true:=by kernel_rfl
theorem wf_u8 {n:Int} (h:(Lit.int .u8 n).wf = true):0 ≤ n ∧ n ≤ 255:=by
 simp only [Lit.wf,Bool.and_eq_true,decide_eq_true_eq] at h;exact ⟨h.1,h.2⟩
theorem ct_of {W:World} {x:List Value} (h:RdT Tryz.prog W 114 x):∃ a:Ct,x = encC a ∧ True:=by
 obtain ⟨h1,_⟩:=h.struct Tryz.underlying114
 have hc:Tryz.prog.cellsOf 114 = 7:=by kernel_rfl
 rw [hc] at h1
 match x,h1 with
 | [c0,c1,c2,c3,c4,c5,c6],_ =>
  have k:Tryz.prog.cellsOf 3 = 1:=by kernel_rfl
  obtain ⟨x0,e0,_⟩:=(h.fld1 Tryz.underlying114 0 rfl rfl rfl k rfl).i64 Tryz.underlying3
  obtain ⟨x1,e1,_⟩:=(h.fld1 Tryz.underlying114 1 rfl rfl rfl k rfl).i64 Tryz.underlying3
  obtain ⟨x2,e2,_⟩:=(h.fld1 Tryz.underlying114 2 rfl rfl rfl k rfl).i64 Tryz.underlying3
  obtain ⟨x3,e3,_⟩:=(h.fld1 Tryz.underlying114 3 rfl rfl rfl k rfl).i64 Tryz.underlying3
  obtain ⟨x4,e4,_⟩:=(h.fld1 Tryz.underlying114 4 rfl rfl rfl k rfl).i64 Tryz.underlying3
  obtain ⟨x5,e5,_⟩:=(h.fld1 Tryz.underlying114 5 rfl rfl rfl k rfl).i64 Tryz.underlying3
  obtain ⟨x6,e6,_⟩:=(h.fld1 Tryz.underlying114 6 rfl rfl rfl k rfl).i64 Tryz.underlying3
  simp at e0 e1 e2 e3 e4 e5 e6
  subst e0 e1 e2 e3 e4 e5 e6;exact ⟨⟨x0,x1,x2,x3,x4,x5,x6⟩,rfl,trivial⟩
theorem bk_of {W:World} {x:List Value} (h:RdT Tryz.prog W 95 x):∃ a:Bk,x = encB a ∧ True:=by
 obtain ⟨h1,_⟩:=h.struct Tryz.underlying95
 have hc:Tryz.prog.cellsOf 95 = 4:=by kernel_rfl
 rw [hc] at h1
 match x,h1 with
 | [c0,c1,c2,c3],_ =>
  have k:Tryz.prog.cellsOf 3 = 1:=by kernel_rfl
  obtain ⟨x0,e0,_⟩:=(h.fld1 Tryz.underlying95 0 rfl rfl rfl k rfl).i64 Tryz.underlying3
  obtain ⟨x1,e1,_⟩:=(h.fld1 Tryz.underlying95 1 rfl rfl rfl k rfl).i64 Tryz.underlying3
  obtain ⟨x2,e2,_⟩:=(h.fld1 Tryz.underlying95 2 rfl rfl rfl k rfl).i64 Tryz.underlying3
  obtain ⟨x3,e3,_⟩:=(h.fld1 Tryz.underlying95 3 rfl rfl rfl k rfl).i64 Tryz.underlying3
  simp at e0 e1 e2 e3
  subst e0 e1 e2 e3;exact ⟨⟨x0,x1,x2,x3⟩,rfl,trivial⟩
theorem hd_of {W:World} {x:List Value} (h:RdT Tryz.prog W 99 x):∃ a:Hd,x = encH a ∧ True:=by
 obtain ⟨h1,_⟩:=h.struct Tryz.underlying99
 have hc:Tryz.prog.cellsOf 99 = 5:=by kernel_rfl
 rw [hc] at h1
 match x,h1 with
 | [c0,c1,c2,c3,c4],_ =>
  have k:Tryz.prog.cellsOf 3 = 1:=by kernel_rfl
  obtain ⟨x0,e0,_⟩:=(h.fld1 Tryz.underlying99 0 rfl rfl rfl k rfl).i64 Tryz.underlying3
  obtain ⟨x1,e1,_⟩:=(h.fld1 Tryz.underlying99 1 rfl rfl rfl k rfl).i64 Tryz.underlying3
  obtain ⟨x2,e2,_⟩:=(h.fld1 Tryz.underlying99 2 rfl rfl rfl k rfl).i64 Tryz.underlying3
  obtain ⟨x3,e3,_⟩:=(h.fld1 Tryz.underlying99 3 rfl rfl rfl k rfl).i64 Tryz.underlying3
  obtain ⟨x4,e4,_⟩:=(h.fld1 Tryz.underlying99 4 rfl rfl rfl k rfl).i64 Tryz.underlying3
  simp at e0 e1 e2 e3 e4
  subst e0 e1 e2 e3 e4;exact ⟨⟨x0,x1,x2,x3,x4⟩,rfl,trivial⟩
theorem int_of {W:World} {x:List Value} (h:RdT Tryz.prog W 3 x):∃ a:Int,x = Eng.encI a ∧ True:=by
 obtain ⟨a,e,_⟩:=h.i64 Tryz.underlying3
 exact ⟨a,e,trivial⟩
theorem tables_of {W:World} {r:Reach} {base:Nat} {v0:Value} (hv:Value.okWide Tryz.prog W r base 29 v0) (h:RdT Tryz.prog W 29 v0.cells.toList) :
  ∃ (pq pc pb ph:Option Addr) (kq kc kb kh:Nat) (qs:List Int) (cs:List Ct) (bs:List Bk) (hs:List Hd),v0 = .agg #[.slice pq qs.length kq,.slice pc cs.length kc,.slice pb bs.length kb,.slice ph hs.length kh] ∧ TbAt (heapPH W) (heapPH W) (heapPH W) (heapPH W) pq pc pb ph kq kc kb kh qs cs bs hs:=by
 obtain ⟨cs,rfl⟩:=okWide_agg Tryz.underlying29 hv
 obtain ⟨h1,hf⟩:=h.struct Tryz.underlying29
 have hc:Tryz.prog.cellsOf 29 = 4:=by kernel_rfl
 rw [hc] at h1
 obtain ⟨x⟩:=cs
 match x,h1 with
 | [c0,c1,c2,c3],_ =>
  have k0:Tryz.prog.cellsOf 22 = 1:=by kernel_rfl
  have k1:Tryz.prog.cellsOf 23 = 1:=by kernel_rfl
  have k2:Tryz.prog.cellsOf 26 = 1:=by kernel_rfl
  have k3:Tryz.prog.cellsOf 27 = 1:=by kernel_rfl
  have kp:Tryz.prog.cellsOf 25 = 2:=by kernel_rfl
  have hp:RdT Tryz.prog W 25 [c0,c1]:=by
   have:RdT Tryz.prog W 25 ((([c0,c1,c2,c3]:List Value).drop 0).take (Tryz.prog.cellsOf 25)):=hf 0 _ rfl
   rw [show (Tryz.prog.cellsOf 25) = 2 from kp] at this
   exact this
  have f0:=hp.fld1 Tryz.underlying25 0 rfl rfl rfl k0 rfl
  have f1:=hp.fld1 Tryz.underlying25 1 rfl rfl rfl k1 rfl
  have f2:=h.fld1 Tryz.underlying29 1 rfl rfl rfl k2 rfl
  have f3:=h.fld1 Tryz.underlying29 2 rfl rfl rfl k3 rfl
  obtain ⟨v,e,qs,a1,a2,a3⟩:=f0.sliceE Tryz.underlying22 (s:=1) (by kernel_rfl) (by omega) (fun x hx=>int_of hx)
  simp only [List.cons.injEq,and_true] at e
  obtain ⟨u,e',ct,b1,b2,b3⟩:=f1.sliceE Tryz.underlying23 (s:=7) (by kernel_rfl) (by omega) (fun x hx=>ct_of hx)
  simp only [List.cons.injEq,and_true] at e'
  obtain ⟨u2,e2,bk,d1,d2,d3⟩:=f2.sliceE Tryz.underlying26 (s:=4) (by kernel_rfl) (by omega) (fun x hx=>bk_of hx)
  simp only [List.cons.injEq,and_true] at e2
  obtain ⟨u3,e3,hd,g1,g2,g3⟩:=f3.sliceE Tryz.underlying27 (s:=5) (by kernel_rfl) (by omega) (fun x hx=>hd_of hx)
  simp only [List.cons.injEq,and_true] at e3
  have cap2:=f1.capOK Tryz.underlying23
  subst e e' e2 e3
  obtain ⟨pq,kq,rfl,_⟩:=a1.val Eng.encI_len
  obtain ⟨pc,kc,rfl,_⟩:=b1.val encC_len
  obtain ⟨pb,kb,rfl,_⟩:=d1.val encB_len
  obtain ⟨ph,kh,rfl,_⟩:=g1.val encH_len
  simp only [maxLen] at a3 b3 d3 g3
  exact ⟨pq,pc,pb,ph,kq,kc,kb,kh,qs,ct,bk,hd,rfl,a1,b1,cap2.le,by omega,by omega,d1,by omega,g1,by omega⟩
end Go.Proofs.YtjehnjhkcmobcaaGreat
/- Rows of a slice whose value is known. No conditions. -/
namespace Go.Eng
theorem rowN {α:Type} {enc:α → List Value} {s:Nat} (he:∀ x,(enc x).length = s) {ρ:PH} {p:Option Addr} {k:Nat} {l:List α} (h:SlE enc s ρ (.slice p l.length k) l):RowsE enc s ρ p l:=by
  obtain ⟨_,_,e,hr⟩:=h.val he
  simp only [Value.slice.injEq] at e
  obtain ⟨rfl,_,_⟩:=e
  exact hr
end Go.Eng
/- Maps whose keys are structs of two or three ints: looked up, changed. No conditions. -/
namespace Go.Eng
variable {C : Cx} {D : List Deferred} {R H : List PH} {L : Env} {K : List It}
variable {dst : Option Tmp} {ty : TypeId} {pos : String} {aft : Array Edge} {g : Option (Nat × Bool)}
abbrev aggI (k : List Int) : Value := .agg (k.map int).toArray
def entsS : Nat → List (List Int × Value) → List MapEntry
  | _, [] => []
  | i, kv :: m => ⟨aggI kv.1, kv.2, i⟩ :: entsS (i + 1) m
def mapS (m : List (List Int × Value)) : Obj := .map (entsS 0 m).toArray m.length
def midxS (k : List Int) : List (List Int × Value) → Option (Nat × Value)
  | [] => none
  | (a, v) :: m => if k = a then some (0, v) else (midxS k m).map (fun p => (p.1 + 1, p.2))
def mgetS (k : List Int) (m : List (List Int × Value)) : Option Value := (midxS k m).map (·.2)
def msetS (k : List Int) (v : Value) : List (List Int × Value) → List (List Int × Value)
  | [] => [(k, v)]
  | (a, w) :: m => if k = a then (a, v) :: m else (a, w) :: msetS k v m
theorem mgetS_mset (k x : List Int) (v : Value) : ∀ m : List (List Int × Value), mgetS x (msetS k v m) = if x = k then some v else mgetS x m
  | [] => by
    by_cases h : x = k <;> simp [msetS, mgetS, midxS, h]
  | (a, w) :: m => by
    have ih := mgetS_mset k x v m
    by_cases h : k = a
    · subst h
      simp only [msetS, if_true, mgetS, midxS]
      by_cases e : x = k <;> simp [e]
    · simp only [msetS, if_neg h, mgetS, midxS] at ih ⊢
      by_cases e : x = a
      · subst e
        simp [Ne.symm h]
      · simp only [if_neg e, Option.map_map] at ih ⊢
        have e2 : ((fun x : Nat × Value => x.2) ∘ fun p : Nat × Value => (p.1 + 1, p.2)) = fun x => x.2 := rfl
        rw [e2, ih]
theorem mset_noneS {k : List Int} {v : Value} : ∀ {m : List (List Int × Value)} (i : Nat), midxS k m = none → entsS i m ++ [⟨aggI k, v, i + m.length⟩] = entsS i (msetS k v m) ∧ (msetS k v m).length = m.length + 1
  | [], i, _ => ⟨rfl, rfl⟩
  | (a, w) :: m, i, h => by
    unfold midxS at h
    split at h
    · exact absurd h (by simp)
    · rename_i hk
      have h' : midxS k m = none := by simpa using h
      obtain ⟨e, l⟩ := mset_noneS (k := k) (v := v) (m := m) (i + 1) h'
      simp only [msetS, if_neg hk, entsS, List.cons_append, List.length_cons, l, and_true, ← e]
      congr 4
      omega
theorem mset_someS {k : List Int} {v : Value} : ∀ {m : List (List Int × Value)} (i n : Nat) (w : Value), midxS k m = some (n, w) → (entsS i m).modify n (fun e => { e with key := aggI k, val := v }) = entsS i (msetS k v m) ∧ (msetS k v m).length = m.length ∧ n < m.length ∧ ((entsS i m)[n]?).map (·.key) = some (aggI k)
  | [], i, n, w, h => by simp [midxS] at h
  | (a, u) :: m, i, n, w, h => by
    unfold midxS at h
    split at h
    · rename_i hk
      subst hk
      simp at h
      obtain ⟨rfl, rfl⟩ := h
      simp [entsS, msetS]
    · rename_i hk
      cases hm : midxS k m with
      | none => rw [hm] at h; simp at h
      | some p =>
        rw [hm] at h
        simp at h
        obtain ⟨rfl, rfl⟩ := h
        obtain ⟨e, l, l2, l3⟩ := mset_someS (k := k) (v := v) (m := m) (i + 1) p.1 p.2 hm
        simp only [msetS, if_neg hk, entsS, List.length_cons, l, List.modify_succ_cons, e]
        refine ⟨trivial, trivial, by omega, ?_⟩
        simpa using l3
structure KeyS (P : Program) (kt : TypeId) (n : Nat) : Prop where
  i : intsP P kt n = true
  s : P.stoodInHeld kt = false
theorem run_askS {P : Program} {w : World} {kt : TypeId} {n : Nat} {k : List Int} (hk : KeyS P kt n) (hn : k.length = n) : ∀ (m : List (List Int × Value)) (i j : Nat), (∀ x ∈ m, x.1.length = n) → (Instr.findAsking kt (aggI k) (entsS i m) j).run P w = .ok ((midxS k m).map (fun p => (j + p.1, p.2))) w
  | [], i, j, _ => by simp [entsS, Instr.findAsking, midxS]
  | (a, v) :: m, i, j, h => by
    have ih := run_askS (w := w) hk hn m (i + 1) (j + 1) (fun x hx => h x (by simp [hx]))
    have he := run_eqInts (P := P) w hk.i hk.s hn (h (a, v) (by simp))
    simp only [entsS, Instr.findAsking, Op.equal, Op.maxDepth, Sem.run_bind, he, Result.andThen_ok, midxS]
    by_cases e : k = a
    · simp [e]
    · simp only [e, decide_false, Bool.false_eq_true, if_false, ih, Option.map_map]
      congr 2
      funext p
      show (j + 1 + p.1, p.2) = (j + (p.1 + 1), p.2)
      rw [show j + 1 + p.1 = j + (p.1 + 1) by omega]
theorem run_findS {P : Program} {w : World} {kt : TypeId} {n : Nat} {k : List Int} (hk : KeyS P kt n) (hn : k.length = n) {m : List (List Int × Value)} (h : ∀ x ∈ m, x.1.length = n) : (Instr.findKey kt (aggI k) (entsS 0 m)).run P w = .ok (midxS k m) w := by
  obtain ⟨fs, hu, _, _⟩ := intsP_of hk.i
  rw [run_findKey_eq w (by rw [hu]), run_askS hk hn m 0 0 h]
  simp
theorem run_checkFlds {P : Program} {w : World} (em : Bool) (d : Nat) (k : List Int) : ∀ (fs : List Field) (j : Nat), fldsI P j fs = true → j + fs.length = k.length →
    ((forIn fs PUnit.unit fun (f : Field) (_ : PUnit) => (if f.name ≠ "_" then do let x ← part f.type (k.map int).toArray f.offset; Instr.checkKey em (d + 1) f.type x; pure (ForInStep.yield PUnit.unit) else pure (ForInStep.yield PUnit.unit) : Sem (ForInStep PUnit)))).run P w = .ok PUnit.unit w
  | [], j, _, _ => by simp
  | f :: fs, j, hf, h => by
    simp only [fldsI, fldI, Bool.and_eq_true, bne_iff_ne, ne_eq, beq_iff_eq] at hf
    obtain ⟨⟨⟨h3, h4⟩, h5⟩, h6⟩ := hf
    have hu : P.underlying f.type = some (.int .i64) := by
      split at h5
      · assumption
      · simp at h5
    have ih := run_checkFlds (w := w) em d k fs (j + 1) h6 (by simp at h; omega)
    have hk : j < k.length := by simp at h; omega
    have hp : (part f.type (k.map int).toArray f.offset).run P w = .ok (int k[j]) w := by
      have hag : aggP P f.type = some false := by simp [aggP, hu]
      simp [part, run_isAgg hag, h4, hk]
    have hc := run_checkKey (P := P) (w := w) (k := k[j]) em d hu
    rw [List.forIn_cons];simp only [h3, not_false_eq_true, if_true, ne_eq, bind_assoc, Sem.run_bind, hp, hc, Result.andThen_ok, pure_bind];exact ih
theorem run_checkS {P : Program} {w : World} {kt : TypeId} {n : Nat} {k : List Int} (hk : KeyS P kt n) (hn : k.length = n) (em : Bool) : (Instr.checkKey em 10000 kt (aggI k)).run P w = .ok () w := by
  obtain ⟨fs, hu, hs, hf⟩ := intsP_of hk.i
  have h := run_checkFlds (P := P) (w := w) em 9998 k fs.toList 0 hf (by simp [hs, hn])
  rw [show (10000 : Nat) = 9999 + 1 from rfl, Instr.checkKey]
  simp only [Sem.run_bind, run_underlying hu, Result.andThen_ok, ← Array.forIn_toList];rw [h]
  rfl
theorem run_lookupS {P : Program} {w : World} {t kt et : TypeId} {b n : Nat} {k : List Int} {l : List (List Int × Value)} {z : Value} {ok : Bool} (ht : P.underlying t = some (.map kt et)) (hk : KeyS P kt n) (hn : k.length = n) (hl : ∀ x ∈ l, x.1.length = n) (hz : zeroP P et = some z) (hg : w.heap[b]? = some (mapS l)) :
    (Instr.lookup t (.map (some b)) (aggI k) ok).run P w = .ok (if ok then .tuple #[(mgetS k l).getD z, .bool (mgetS k l).isSome] else (mgetS k l).getD z) w := by
  have hf := run_findS (P := P) (w := w) (k := k) hk hn hl
  have hc := fun e => run_checkS (P := P) (w := w) (k := k) hk hn e
  unfold mgetS
  cases hm : midxS k l with
  | none =>
    rw [hm] at hf
    simp [Instr.lookup, run_underlying ht, getObj, Sem.run, hg, mapS]
    simp [hc, hf, run_zeroValue hz]
  | some p =>
    rw [hm] at hf
    simp [Instr.lookup, run_underlying ht, getObj, Sem.run, hg, mapS]
    simp [hc, hf]
def MapAtS (N : Bs) (R H : List PH) (b : Nat) (l : List (List Int × Value)) : Prop := ∀ w, Sat N R H w → w.heap[b]? = some (mapS l)
theorem mapAtS_own {N : Bs} {b : Nat} {l : List (List Int × Value)} (m : Mem (sng b (mapS l)) H) : MapAtS N R H b l := fun w hs => hs.h _ m.mem b _ (sng_self b _)
theorem mapAtS_rd {N : Bs} {b : Nat} {l : List (List Int × Value)} (m : Mem (sng b (mapS l)) R) : MapAtS N R H b l := fun w hs => hs.r _ m.mem b _ (sng_self b _)
theorem DV {t : TypeId} : Loud C R H L ⟨dst, .makeMap t none, ty, pos, aft, g⟩ (fun v H' => ∃ b, v = .map (some b) ∧ H' = sng b (mapS []) :: H) := D7
theorem EC {x y : Operand} {t kt et : TypeId} {b : Nat} (n : Nat) (k : List Int) {l : List (List Int × Value)} {z : Value} (h : evalE L x = some (.map (some b))) (hk : evalE L y = some (aggI k)) (ht : C.P.underlying t = some (.map kt et)) (hkt : KeyS C.P kt n) (hn : k.length = n) (hl : ∀ x ∈ l, x.1.length = n) (hz : zeroP C.P et = some z) (hm : MapAtS C.N R H b l) :
    Quiet C R H L ⟨dst, .lookup t x y false, ty, pos, aft, g⟩ ((mgetS k l).getD z) :=
  ⟨by intro c; simp, fun a w hx hs => by
    have e1 := hx x (by simp [Op.operands]) _ h
    have e2 := hx y (by simp [Op.operands]) _ hk
    simp [execOp, e1, e2, run_lookupS (ok := false) ht hkt hn hl hz (hm w hs)]⟩
theorem sameBits_agg (k : List Int) : Instr.sameBits 10000 (aggI k) (aggI k) = true := by
  have h : ∀ l : List Int, ((l.map int).zip (l.map int)).all (fun p => Instr.sameBits 9999 p.1 p.2) = true := by
    intro l
    induction l with
    | nil => rfl
    | cons x l ih =>
      simp only [List.map_cons, List.zip_cons_cons, List.all_cons, ih, Bool.and_true]
      simp [Instr.sameBits]
  have h2 := h k
  simp only [aggI];unfold Instr.sameBits;simp only [beq_self_eq_true, Bool.true_and];exact h2
theorem run_mapUpdateS {P : Program} {w : World} {t kt et : TypeId} {b n : Nat} {k : List Int} {v : Value} {l : List (List Int × Value)} (ht : P.underlying t = some (.map kt et)) (hkt : KeyS P kt n) (hn : k.length = n) (hl : ∀ x ∈ l, x.1.length = n) (hg : w.heap[b]? = some (mapS l)) :
    (Instr.mapUpdate t (.map (some b)) (aggI k) v).run P w = .ok () { w with heap := w.heap.setIfInBounds b (mapS (msetS k v l)) } := by
  have hf := run_findS (P := P) (w := w) (k := k) hkt hn hl
  have hc := fun e => run_checkS (P := P) (w := w) (k := k) hkt hn e
  cases hm : midxS k l with
  | none =>
    rw [hm] at hf
    obtain ⟨e, n⟩ := mset_noneS (k := k) (v := v) 0 hm
    have e2 : mapS (msetS k v l) = .map ((entsS 0 l).toArray.push ⟨aggI k, v, l.length⟩) (l.length + 1) := by
      unfold mapS; rw [n, ← e]; simp
    rw [e2]
    simp [Instr.mapUpdate, run_underlying ht, getObj, Sem.run, hg, mapS]
    simp [hc, hf, setObj, Sem.run, hg, mapS]
  | some p =>
    rw [hm] at hf
    obtain ⟨e, n, n2, n3⟩ := mset_someS (k := k) (v := v) 0 p.1 p.2 hm
    have e2 : mapS (msetS k v l) = .map ((entsS 0 l).toArray.modify p.1 (fun e => { e with key := aggI k, val := v })) l.length := by
      unfold mapS; rw [n, ← e]; simp
    rw [e2]
    have hks : (Instr.keyThatStays (aggI k) (aggI k)).run P w = .ok (aggI k) w := by simp [Instr.keyThatStays, sameBits_agg]
    simp [Instr.mapUpdate, run_underlying ht, getObj, Sem.run, hg, mapS]
    simp [hc, hf, setObj, Sem.run, n3, hks, hg, mapS]
theorem DG {x y z : Operand} {t kt et : TypeId} {b : Nat} (n : Nat) (k : List Int) {v : Value} {l : List (List Int × Value)} {H' : List PH} (h : evalE L x = some (.map (some b))) (hk : evalE L y = some (aggI k)) (hv : evalE L z = some v) (ht : C.P.underlying t = some (.map kt et)) (hkt : KeyS C.P kt n) (hn : k.length = n) (hl : ∀ x ∈ l, x.1.length = n) (hm : Take (sng b (mapS l)) H H') :
    Loud C R H L ⟨dst, .mapUpdate t x y z, ty, pos, aft, g⟩ (fun u H2 => u = undef ∧ H2 = sng b (mapS (msetS k v l)) :: H') := by
  refine ⟨fun a w hx hs next Q hnx => ?_⟩
  have hg := hs.own hm
  have e1 := hx x (by simp [Op.operands]) _ h
  have e2 := hx y (by simp [Op.operands]) _ hk
  have e3 := hx z (by simp [Op.operands]) _ hv
  refine wpIn_skipv (w' := { w with heap := w.heap.setIfInBounds b (mapS (msetS k v l)) }) (by intro c; simp) ?_ (hnx _ _ _ ⟨rfl, rfl⟩ (hs.turn hm ?_ ?_ ?_))
  · simp [execOp, e1, e2, e3, run_mapUpdateS ht hkt hn hl hg]
  · simp
  · have : b < w.heap.size := by
      rw [Array.getElem?_eq_some_iff] at hg; exact hg.1
    simp [this]
  · intro k hk; simp [Array.getElem?_setIfInBounds, Ne.symm hk]
theorem msetS_len {k : List Int} {v : Value} {n : Nat} (hk : k.length = n) : ∀ {l : List (List Int × Value)}, (∀ x ∈ l, x.1.length = n) → ∀ x ∈ msetS k v l, x.1.length = n
  | [], _, x, hx => by simp [msetS] at hx; rw [hx]; exact hk
  | (a, w) :: l, h, x, hx => by
    unfold msetS at hx
    split at hx
    · rcases List.mem_cons.1 hx with rfl | hx
      · exact h (a, w) (by simp)
      · exact h x (by simp [hx])
    · rcases List.mem_cons.1 hx with rfl | hx
      · exact h (a, w) (by simp)
      · exact msetS_len hk (l := l) (fun y hy => h y (by simp [hy])) x hx
end Go.Eng
/- What an owned slice looks like; chunks that hold more. No conditions. -/
namespace Go.Eng
theorem OwnS.form {e:TypeId} {s n:Nat} {v:Value} {xs:List Value} {ρ:PH} (h:OwnS e s v n xs ρ):∃ p c,v = .slice p n c:=by
  obtain ⟨_,⟨rfl,rfl,_⟩ | ⟨b,cap,_,rfl,_⟩⟩:=h
  · exact ⟨none,0,rfl⟩
  · exact ⟨_,cap,rfl⟩
theorem OwnS.formP {e:TypeId} {s n:Nat} {v:Value} {xs:List Value} {ρ:PH} (h:OwnS e s v n xs ρ) (hn:0 < n):∃ b c,v = .slice (some ⟨b,0,none⟩) n c:=by
  obtain ⟨_,⟨_,h,_⟩ | ⟨b,cap,_,rfl,_⟩⟩:=h
  · omega
  · exact ⟨b,cap,rfl⟩
theorem SlAt.mono {ρ γ:PH} {s n:Nat} {v:Value} {xs:List Value} (h:SlAt ρ s v n xs) (hs:PH.sub ρ γ):SlAt γ s v n xs:=by
  obtain ⟨h1,h2 | ⟨b,o,c,e,h3⟩⟩:=h
  · exact ⟨h1,.inl h2⟩
  · exact ⟨h1,.inr ⟨b,o,c,e,fun j u hu=>hs.rdc (h3 j u hu)⟩⟩
theorem SlE.mono {α:Type} {enc:α → List Value} {s:Nat} {ρ γ:PH} {v:Value} {l:List α} (h:SlE enc s ρ v l) (hs:PH.sub ρ γ):SlE enc s γ v l:=SlAt.mono h hs
end Go.Eng
/- A set of integers lies between its first and its last. No program in sight. No conditions. -/
namespace Go.Step
theorem chkI_at {l:List (Int × Int)} (h:chkI l = 0) {i:Nat} (hi:i < l.length):l[i].1 < l[i].2 ∧ (∀ h0:0 < i,l[i - 1].2 < l[i].1):=by
  unfold chkI at h
  split at h
  · simp at h
  have h2:=firstE_zero h i hi
  rw [spE_at (List.getElem?_eq_getElem hi)] at h2
  split at h2
  · simp at h2
  rename_i h3
  split at h2
  · simp at h2
  rename_i h4
  have h5:okSp l[i]:=Decidable.not_not.1 h3
  refine ⟨h5.1,fun h0=>?_⟩
  rw [List.getD_eq_getElem?_getD,List.getElem?_eq_getElem (by omega),Option.getD_some] at h4
  omega
theorem chkI_hi {l:List (Int × Int)} (h:chkI l = 0):∀ (k:Nat) {i:Nat} (hi:i + k < l.length),l[i].2 ≤ l[i + k].2
  | 0,i,hi=>Int.le_refl _
  | k + 1,i,hi=>by
    have h1:=chkI_hi h k (i:=i) (by omega)
    have h2:=(chkI_at h (i:=i + (k + 1)) hi).1
    have h3:=(chkI_at h hi).2 (by omega)
    have e:i + (k + 1) - 1 = i + k:=by omega
    simp only [e] at h3;omega
end Go.Step
