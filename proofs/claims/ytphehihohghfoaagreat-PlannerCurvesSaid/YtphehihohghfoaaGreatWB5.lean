/- Texts of this proof, one after the other; no conditions. -/
import Derived.Lib.AppendZerosOnto
import Derived.Lib.Overlaps
import Derived.Test.YtphehihohghfoaaGreatRows
import Derived.Test.YtphehihohghfoaaGreatWB4
import Derived.Test.YtphehihohghfoaaGreatWB3
import Derived.Test.YtphehihohghfoaaGreatWB2
import Derived.Test.YtphehihohghfoaaGreatWB1
set_option linter.all false
/- What is wrong with holds, of the program. -/
namespace Go.Proofs.YtphehihohghfoaaGreat
open Go.Eng Go.Step
set_option maxRecDepth 100000
set_option maxHeartbeats 4000000

theorem chkPl_quo {qs:List Int} {cs:List Ct} (h:chkPl qs cs = 0):(1 ≤ qs.length ∧ qs.length ≤ 16) ∧ ∀ (j:Nat) (q:Int),qs[j]? = some q → 0 ≤ q ∧ q ≤ 1073741824:=by
 unfold chkPl at h
 split at h
 ·omega
 ·rename_i hl
  split at h
  ·rename_i h2; exact absurd h h2
  ·rename_i h2
   have h3:firstE (quoE qs) qs.length = 0:=Decidable.not_not.1 h2
   refine ⟨by omega,fun j q hj=>?_⟩
   have:=firstE_zero h3 j (List.getElem?_eq_some_iff.1 hj).1
   rw [quoE_at hj] at this
   split at this <;> omega
theorem fit_all {qs:List Int} {l:List Hd} (hok:∀ h ∈ l,okHd qs.length h) (hq:∀ (j:Nat) (q:Int),qs[j]? = some q → 0 ≤ q ∧ q ≤ 1073741824) (H:∀ (j:Nat) (q:Int),qs[j]? = some q → mostL (lvH l j) ≤ q):fitB qs l = true:=
 List.all_eq_true.2 (fun h hm=>decide_eq_true (by
  have hn:=(hok h hm).1
  obtain ⟨nn,hnn⟩:=Int.eq_ofNat_of_zero_le hn.1
  have hx:=List.getElem?_eq_getElem (show nn < qs.length by omega)
  have:=(most_fits hok (hq nn _ hx).1).1 (H nn _ hx) h hm hnn
  rw [hnn,Int.toNat_natCast,List.getD_eq_getElem?_getD,hx]
  exact this))
theorem fit_bad {qs:List Int} {l:List Hd} (hok:∀ h ∈ l,okHd qs.length h) {j:Nat} {q:Int} (hj:qs[j]? = some q) (hq:0 ≤ q) (H:q < mostL (lvH l j)):fitB qs l = false:=by
 cases hf:fitB qs l with
 | false=>rfl
 | true =>
  exfalso
  have:mostL (lvH l j) ≤ q:=(most_fits hok hq).2 (fun h hm hn=>by
   have:=of_decide_eq_true (List.all_eq_true.1 hf h hm)
   rw [hn,Int.toNat_natCast,List.getD_eq_getElem?_getD,hj] at this
   exact this)
  omega
theorem lvH_len (l:List Hd) (n:Int):(lvH l n).length ≤ 2 * l.length:=by
 have:=comb_len (Step.stored l n) (hts l n) 0
 have:=hts_len2 l n
 unfold lvH; omega
set_option maxHeartbeats 16000000 in
theorem check28_spec (ρ τ σ:PH) (pq pc:Option Addr) (kq kc:Nat) (qs:List Int) (cs:List Ct) (v:Value) (l:List Hd) (hq:IntsAt ρ (.slice pq qs.length kq) qs) (hc:CtAt τ (.slice pc cs.length kc) cs) (hcap:cs.length ≤ kc) (lq:qs.length ≤ 9223372036854775807) (lc:cs.length ≤ 9223372036854775807) (hv:HdAt σ v l) (hl:l.length ≤ 9223372036854775807) :
  Ans Tryz.prog (fv 147) [.agg #[.slice pq qs.length kq,.slice pc cs.length kc],v] [ρ,τ,σ] (fun r=>r = int (chkH qs cs l)):=by
 have hv2:=hv
 obtain ⟨q,c,rfl,hr⟩:=hv.val encH_len
 obtain ⟨_,_,e,hrq⟩:=hq.val Eng.encI_len
 simp only [Value.slice.injEq] at e
 obtain ⟨rfl,_,rfl⟩:=e
 refine spec_in (cap:=[]) Tryz.func147 rfl rfl Tryz.ntmps147 rfl envZ (fun N β=>?_)
 refine Aa ?_;refine BI (BK rfl) rfl rfl rfl ?_;rintro _ _ ⟨b1,rfl,rfl⟩;refine AS (ρ:=sng b1 _) takeZ ?_
 have c1:RdN (sng b1 (.cells #[.slice pq qs.length kq,.slice pc cs.length kc] 25 (0,0))) b1 0 [.slice pq qs.length kq,.slice pc cs.length kc]:=fun j u hu=>by rw [rdc_sng,Nat.zero_add]; simpa using hu
 have c10:rdc (sng b1 (.cells #[.slice pq qs.length kq,.slice pc cs.length kc] 25 (0,0))) b1 0 = some (.slice pq qs.length kq):=by rw [rdc_sng]; rfl
 refine Abm ?_;refine Abo ?_;refine A3 (planCheck_spec ρ τ pq pc kq kc qs cs hq hc hcap lq lc) rfl rfl rdZ rfl rfl ?_;rintro _ rfl;unfold chkH
 by_cases hp:chkPl qs cs = 0
 rotate_left
 ·rw [if_pos hp]
  generalize chkPl qs cs = z at hp
  refine CG ?_;refine Aaz ?_;exact AI (res1 rfl rfl) rsubZ selZ ⟨rfl,rfl⟩
 obtain ⟨hql,hquo⟩:=chkPl_quo hp
 rw [if_neg (fun h=>h hp),hp]
 by_cases hbig:512 < l.length
 ·rw [if_pos hbig]
  refine Ad7 ?_;refine CI ?_;refine Aaz ?_;exact AI (res1 rfl rfl) rsubZ selZ ⟨rfl,rfl⟩
 rw [if_neg hbig];refine Ad7 ?_;refine Aed ?_;refine Ab8 ?_
 refine BC [1,2,15,16] (0:Nat) (fun k=>k ≤ l.length ∧ firstE (hdE qs.length l) k = 0) (fun k=>[(17,int k)]) (fun _=>[]) (fun k=>l.length - k) pickZ ⟨by omega,rfl⟩ covZ selZ ?_
 rintro k ⟨hk,hI⟩
 by_cases hlt:k < l.length
 ·have hx:=List.getElem?_eq_getElem hlt
  obtain ⟨b2,o2,rfl,hrd,_⟩:=hdRow5 hr hx
  have hE:=hdE_at (nq:=qs.length) hx
  generalize l[k] = h at hrd hE
  have hva:=valid28_spec (.slice pq qs.length kq) (.slice pc cs.length kc) ρ qs kq pq h rfl rfl
  refine Adi ?_;refine AW ?_; rintro _ _ ⟨b,rfl,rfl⟩;refine AD ?_;refine AV ?_; rintro _ _ ⟨rfl,rfl⟩;refine Aak ?_;refine Ab5 ?_
  revert b; intro b6
  refine A3 hva rfl rfl rdZ rfl rfl ?_;rintro _ rfl
  by_cases hok:okHd qs.length h
  rotate_left
  ·rw [if_pos hok] at hE
   have hh:=firstE_hit hI (by rw [hE]; decide) _ hlt
   rw [if_pos (by rw [hh,hE]; decide),hh,hE,decide_eq_false hok]
   refine BD ?_;refine Aaz ?_;exact AI (res1 rfl rfl) rsubZ selZ ⟨rfl,rfl⟩
  rw [if_neg (fun hh=>hh hok)] at hE
  rw [decide_eq_true hok];refine Acc ?_;refine AC ?_
  by_cases h0:k = 0
  ·subst h0
   rw [if_neg (by omega)] at hE
   refine A5 (.q 0 (.q 1 (.q 2 (.q 3 (.q 4 (.q 5 (.q 6 (.q 7 (.q 8 (.q 9 (.q 10 (.q 11 .nil)))))))))))) [sng b6 _] rfl (by kernel_rfl) selZ ?_
   refine AR ?_;refine C3 ?_;refine Ad8 ?_;refine BN ?_;refine Aei ?_
   exact AZ (0 + 1) ⟨by omega,firstE_ok hI hE⟩ (by omega) covZ selZ
  ·have hlt':k - 1 < l.length:=by omega
   have hx':=List.getElem?_eq_getElem hlt'
   obtain ⟨_,_,e,hrd',_⟩:=hdRow5 hr hx'
   simp only [Option.some.injEq,Addr.mk.injEq,and_true] at e
   obtain ⟨rfl,rfl⟩:=e
   rw [List.getD_eq_getElem?_getD,hx',Option.getD_some] at hE
   generalize l[k - 1] = g at hrd' hE
   have hle:=compare_spec g h
   generalize cmpHd g h = z at hle hE
   refine A5 (.q 0 (.q 1 (.q 2 (.q 3 (.q 4 (.q 5 (.q 6 (.q 7 (.q 8 (.l 9 .e (.q 10 (.q 11 .nil)))))))))))) [sng b6 _] rfl (by kernel_rfl) selZ ?_
   refine AR ?_;refine DY ?_;refine Aa6 ?_;refine AR ?_;refine BL ?_;refine BG ?_;refine BR ?_;refine BR ?_;refine CO (CH rfl hle rfl rfl rdZ rfl rfl ?_);rintro _ rfl
   by_cases hc9:0 < z
   ·rw [if_pos (by omega)] at hE
    have hh:=firstE_hit hI (by rw [hE]; decide) _ hlt
    rw [if_pos (by rw [hh,hE]; decide),hh,hE]
    refine DY ?_;refine BW ?_;refine Acz ?_;exact AI (res1 rfl rfl) rsubZ selZ ⟨rfl,rfl⟩
   ·rw [if_neg (by omega)] at hE
    refine C3 ?_;refine BW ?_;refine Aei ?_
    exact AZ (k + 1) ⟨by omega,firstE_ok hI hE⟩ (by omega) covZ selZ
 have hke:k = l.length:=by omega
 subst hke
 have hok:=hdE_ok hI
 rw [List.take_length] at hok
 rw [if_neg (by rw [hI]; simp)]
 clear hI hk hlt;refine Abt ?_;refine AC ?_;refine Aao ?_;refine Abk ?_
 refine BC [1,40,41] (0:Nat) (fun k=>k ≤ qs.length ∧ ∀ (j:Nat) (q:Int),j < k → qs[j]? = some q → mostL (lvH l j) ≤ q) (fun k=>[(42,int k)]) (fun _=>[]) (fun k=>qs.length - k) pickZ ⟨by omega,fun j q h=>by omega⟩ covZ selZ ?_
 rintro k ⟨hk,hI⟩
 by_cases hlt:k < qs.length
 ·have hx:=List.getElem?_eq_getElem hlt
  obtain ⟨b2,o2,rfl,g1⟩:=hrq.int hx
  have hq0:=hquo k _ hx
  have hbad:=@fit_bad qs l hok k _ hx hq0.1
  have hnext:mostL (lvH l k) ≤ qs[k] → ∀ (j:Nat) (q:Int),j < k + 1 → qs[j]? = some q → mostL (lvH l j) ≤ q:=fun hle j q hj hjq=>by
   by_cases e:j = k
   ·subst e; rw [hx] at hjq; injection hjq with hjq; rw [← hjq]; exact hle
   ·exact hI j q (by omega) hjq
  generalize qs[k] = qv at g1 hbad hnext
  refine Abz ?_;refine Ab1 ?_;refine Aan ?_;refine Abn ?_
  refine BZ (levels_spec σ _ l k qs.length hv2 hok (by omega)) rfl rfl rdZ rfl rfl ?_
  rintro ul σl hOl
  have hL:LvAt σl ul (lvH l k):=hOl.at
  have hll:=lvH_len l k
  refine A3 (most_spec σl ul (lvH l k) hL (by omega)) rfl rfl rdZ rfl rfl ?_
  rintro _ rfl
  generalize mostL (lvH l k) = mv at hbad hnext
  by_cases hcq:qv < mv
  ·rw [hbad hcq]
   refine AB ?_;refine CI ?_;refine Aaz ?_;exact AI (res1 rfl rfl) rsubZ selZ ⟨rfl,rfl⟩
  ·have hn2:=hnext (by omega)
   refine AB ?_;refine Aed ?_;refine Aa4 ?_
   exact AZ (k + 1) ⟨by omega,hn2⟩ (by omega) covZ selZ
 have hke:k = qs.length:=by omega
 subst hke
 rw [fit_all hok hquo (fun j q hj=>hI j q (List.getElem?_eq_some_iff.1 hj).1 hj)]
 refine Abt ?_;refine Aaj ?_;exact AI (res1 rfl rfl) rsubZ selZ ⟨rfl,rfl⟩
end Go.Proofs.YtphehihohghfoaaGreat
/- Where a node can store more: two ways to say it. No program in sight. No conditions. -/
namespace Go.Step
def frA (Q s:Int) (st:Int × List (Int × Int)) (t v:Int):Int × List (Int × Int):=
  if Q - v < s then (-1,if 0 ≤ st.1 ∧ st.1 < t then st.2 ++ [(st.1,t)] else st.2) else (if st.1 < 0 then t else st.1,st.2)
def finA (st:Int × List (Int × Int)):List (Int × Int):=if 0 ≤ st.1 ∧ st.1 < 1099511627776 then st.2 ++ [(st.1,1099511627776)] else st.2
def frB (Q s:Int) (st:(Int × Bool) × List (Int × Int)) (x:Lv):(Int × Bool) × List (Int × Int):=
  ((if s ≤ Q - x.v ∧ st.1.2 = false then x.a else st.1.1,decide (s ≤ Q - x.v)),if st.1.2 = true ∧ Q - x.v < s ∧ st.1.1 < x.a then st.2 ++ [(st.1.1,x.a)] else st.2)
def finB (st:(Int × Bool) × List (Int × Int)):List (Int × Int):=if st.1.2 = true ∧ st.1.1 < 1099511627776 then st.2 ++ [(st.1.1,1099511627776)] else st.2
structure RlF (A:Int × List (Int × Int)) (B:(Int × Bool) × List (Int × Int)):Prop where
  o:A.2 = B.2
  p:0 ≤ B.1.1
  f:A.1 = if B.1.2 = true then B.1.1 else -1
theorem RlF.step {Q s:Int} {A:Int × List (Int × Int)} {B:(Int × Bool) × List (Int × Int)} (h:RlF A B) {x:Lv} (h0:0 ≤ x.a):RlF (frA Q s A x.a x.v) (frB Q s B x):=by
  obtain ⟨a1,a2⟩:=A
  obtain ⟨⟨b1,b2⟩,b3⟩:=B
  obtain ⟨h1,h2,h3⟩:=h
  dsimp only at h1 h2 h3
  subst h1;unfold frA frB
  dsimp only
  by_cases hr:Q - x.v < s
  · rw [if_pos hr]
    have hd:decide (s ≤ Q - x.v) = false:=decide_eq_false (by omega)
    cases b2 with
    | true =>
      simp only [if_true] at h3;subst h3;refine ⟨?_,?_,?_⟩
      · dsimp only
        by_cases hl:a1 < x.a
        · rw [if_pos ⟨h2,hl⟩,if_pos ⟨rfl,hr,hl⟩]
        · rw [if_neg (by omega),if_neg (by omega)]
      · dsimp only; rw [if_neg (by simp)]; exact h2
      · dsimp only; rw [hd]; rfl
    | false =>
      have h3':a1 = -1:=by simpa using h3
      subst h3';refine ⟨?_,?_,?_⟩
      · dsimp only
        rw [if_neg (by omega),if_neg (by simp)]
      · dsimp only; rw [if_neg (by omega)]; exact h2
      · dsimp only; rw [hd]; rfl
  · rw [if_neg hr]
    have hd:decide (s ≤ Q - x.v) = true:=decide_eq_true (by omega)
    cases b2 with
    | true =>
      simp only [if_true] at h3;subst h3;refine ⟨?_,?_,?_⟩
      · dsimp only; rw [if_neg (by omega)]
      · dsimp only; rw [if_neg (by simp)]; exact h2
      · dsimp only; rw [hd,if_pos rfl,if_neg (by omega),if_neg (by simp)]
    | false =>
      have h3':a1 = -1:=by simpa using h3
      subst h3';refine ⟨?_,?_,?_⟩
      · dsimp only; rw [if_neg (by simp)]
      · dsimp only; rw [if_pos ⟨by omega,rfl⟩]; exact h0
      · dsimp only; rw [hd,if_pos rfl,if_pos (by omega),if_pos ⟨by omega,rfl⟩]
theorem RlF.last {Q s:Int} {A:Int × List (Int × Int)} {B:(Int × Bool) × List (Int × Int)} (h:RlF A B) {x:Lv} (hx:x.a = 1099511627776):finA A = finB (frB Q s B x):=by
  obtain ⟨a1,a2⟩:=A
  obtain ⟨⟨b1,b2⟩,b3⟩:=B
  obtain ⟨h1,h2,h3⟩:=h
  dsimp only at h1 h2 h3
  subst h1;unfold finA finB frB
  dsimp only
  rw [hx]
  by_cases hr:Q - x.v < s
  · have hd:decide (s ≤ Q - x.v) = false:=decide_eq_false (by omega)
    rw [hd]
    cases b2 with
    | true =>
      simp only [if_true] at h3;subst h3
      by_cases hl:a1 < 1099511627776
      · rw [if_pos ⟨h2,hl⟩,if_neg (by simp),if_pos ⟨rfl,hr,hl⟩]
      · rw [if_neg (by omega),if_neg (by simp),if_neg (by omega)]
    | false =>
      have h3':a1 = -1:=by simpa using h3
      subst h3'
      rw [if_neg (by omega),if_neg (by simp),if_neg (by simp)]
  · have hd:decide (s ≤ Q - x.v) = true:=decide_eq_true (by omega)
    rw [hd]
    cases b2 with
    | true =>
      simp only [if_true] at h3;subst h3
      rw [if_neg (by simp:¬ (s ≤ Q - x.v ∧ true = false)),if_neg (by omega:¬ (true = true ∧ Q - x.v < s ∧ a1 < 1099511627776))]
      by_cases hl:a1 < 1099511627776
      · rw [if_pos ⟨h2,hl⟩,if_pos ⟨rfl,hl⟩]
      · rw [if_neg (by omega),if_neg (by omega)]
    | false =>
      have h3':a1 = -1:=by simpa using h3
      subst h3'
      rw [if_pos (⟨by omega,rfl⟩:s ≤ Q - x.v ∧ false = false),if_neg (by omega),if_neg (by omega),if_neg (by simp)]
end Go.Step
/- A slice's own end appended to its beginning; cells cleared. No conditions. -/
namespace Go.Eng
variable {C:Cx} {D:List Deferred} {R H:List PH} {L:Env} {K:List It}
variable {dst:Option Tmp} {ty:TypeId} {pos:String} {aft:Array Edge} {g:Option (Nat × Bool)}
end Go.Eng
/- Copies into an owned block; zeros appended to a beginning of an owned block that has no room; slices.overlaps of two blocks. No conditions. -/
namespace Go.Eng
variable {C:Cx} {D:List Deferred} {R H:List PH} {L:Env} {K:List It}
variable {dst:Option Tmp} {ty:TypeId} {pos:String} {aft:Array Edge} {g:Option (Nat × Bool)}
end Go.Eng
namespace Go.Eng
def insL {α:Type} (l:List α) (k:Nat) (h:α):List α:=l.take k ++ h :: l.drop k
theorem insL_len {α:Type} (l:List α) (k:Nat) (h:α):(insL l k h).length = l.length + 1:=by
  unfold insL;simp only [List.length_append,List.length_take,List.length_cons,List.length_drop];omega
theorem rdN_sng {b:Nat} {vs:List Value} {t:TypeId} {fr:Nat × Nat}:RdN (sng b (.cells vs.toArray t fr)) b 0 vs:=fun j v hv=>by
  rw [rdc_sng,Nat.zero_add]
  simpa using hv
end Go.Eng
/- One more hold, holds released: plain. No conditions. -/
namespace Go.Step
open Go.Eng
theorem cmpI_cases (a b:Int):(a < b ∧ cmpI a b = -1) ∨ (a = b ∧ cmpI a b = 0) ∨ (b < a ∧ cmpI a b = 1):=by
  unfold cmpI
  by_cases h:a < b
  · exact .inl ⟨h,by rw [if_pos h]⟩
  · by_cases h2:b < a
    · exact .inr (.inr ⟨h2,by rw [if_neg h,if_pos h2]⟩)
    · exact .inr (.inl ⟨by omega,by rw [if_neg h,if_neg h2]⟩)
theorem orI_cmp (a b:Int) (l:List Int):(a < b ∧ orI (cmpI a b :: l) = -1) ∨ (a = b ∧ orI (cmpI a b :: l) = orI l) ∨ (b < a ∧ orI (cmpI a b :: l) = 1):=by
  have e:orI (cmpI a b :: l) = if cmpI a b ≠ 0 then cmpI a b else orI l:=rfl
  rcases cmpI_cases a b with ⟨h1,h2⟩ | ⟨h1,h2⟩ | ⟨h1,h2⟩
  · exact .inl ⟨h1,by rw [e,h2]; rfl⟩
  · exact .inr (.inl ⟨h1,by rw [e,h2]; rfl⟩)
  · exact .inr (.inr ⟨h1,by rw [e,h2]; rfl⟩)
end Go.Step
/- The parts of an interval, found one by one. No program in sight. No conditions. -/
namespace Go.Step
def nx (fr to:Int):List Lv → Int
  | []=>to
  | l :: f=>if fr < l.a then min l.a to else nx fr to f
end Go.Step
/- The greatest and the least value, where a function is low; the times of two functions, merged. No program in sight. No conditions. -/
namespace Go.Step
abbrev Pt:=(Int × Int) × Int
/-! times,merged -/
structure TInv (f g:List Lv) (i k:Nat) (out:List Int):Prop where
  sa:SA out
  mem:∀ x,x ∈ out ↔ ∃ l ∈ f.take i ++ g.take k,l.a = x
  f:∀ x ∈ out,∀ l ∈ f.drop i,x ≤ l.a
  g:∀ x ∈ out,∀ l ∈ g.drop k,x ≤ l.a
theorem TInv.zero (f g:List Lv):TInv f g 0 0 []:=⟨by simp,by simp,by simp,by simp⟩
theorem TInv.done {f g:List Lv} {out:List Int} (h:TInv f g f.length g.length out):out = tms f g:=by
  obtain ⟨h1,h2⟩:=tms_sa f g
  refine SA.unique h.sa h1 (fun x=>?_)
  rw [h.mem,h2,List.take_length,List.take_length]
theorem SA.len:∀ {out:List Int} {f:List Int},SA out → (∀ x ∈ out,x ∈ f) → out.length ≤ f.length
  | [],_,_,_=>by simp
  | x :: out,f,h,hm=>by
    have p:=List.pairwise_cons.1 h
    have hx:=hm x (by simp)
    have:=SA.len (f:=f.erase x) p.2 (fun y hy=>by
      have h1:=hm y (by simp [hy])
      have h2:=p.1 y hy
      exact (List.mem_erase_of_ne (by omega)).2 h1)
    rw [List.length_erase_of_mem hx] at this
    have:0 < f.length:=List.length_pos_iff.2 (fun e=>by subst e; simp at hx)
    simp; omega
theorem TInv.len {f g:List Lv} {i k:Nat} {out:List Int} (h:TInv f g i k out):out.length ≤ f.length + g.length:=by
  have:=SA.len (f:=(f ++ g).map (·.a)) h.sa (fun x hx=>by
    obtain ⟨l,hl,rfl⟩:=(h.mem x).1 hx
    rw [List.mem_map];refine ⟨l,?_,rfl⟩
    simp at hl ⊢
    rcases hl with hl | hl
    · exact .inl (List.mem_of_mem_take hl)
    · exact .inr (List.mem_of_mem_take hl))
  simpa using this
end Go.Step
namespace Go.Step
theorem AddR.err0 {f out:List Lv} {fr to d e:Int} (h:AddR f fr to d out e) (h0:chkS f = 0) (hs:0 ≤ fr ∧ fr ≤ to ∧ to ≤ 1099511627776) (hd:-2251799813685248 ≤ d ∧ d ≤ 2251799813685248) (hv:∀ t,okV (val f t + if fr ≤ t ∧ t < to then d else 0)) (hl:f.length ≤ 998):e = 0:=by
  rcases h with ⟨a,_⟩ | ⟨_,a,_⟩ | ⟨_,_,_,_,_,a⟩ | ⟨a,b,c,x⟩
  · exact absurd h0 a
  · omega
  · exact a
  · rcases x with ⟨⟨t,_,ht⟩,_⟩ | ⟨_,hbig,_⟩ | ⟨_,_,_,he⟩
    · have:=hv t
      dsimp only at ht
      rw [bump_val fr to d t b.2.1] at ht;exact absurd this ht
    · have h1:=comb_len (fun t=>val f t + val (bump fr to d) t) (tms f (bump fr to d)) 0
      obtain ⟨hsa,hmem⟩:=tms_sa f (bump fr to d)
      have h2:=SA.len (f:=(f ++ bump fr to d).map (·.a)) hsa (fun x hx=>by
        obtain ⟨l,hl,rfl⟩:=(hmem x).1 hx
        exact List.mem_map.2 ⟨l,hl,rfl⟩)
      rw [List.length_map,List.length_append] at h2
      have:(bump fr to d).length = 2:=rfl
      omega
    · exact he
end Go.Step
namespace Go.Step
theorem CombP.len {F:Int → Int} {ts:List Int} {out:List Lv} {e:Int} (h:CombP F ts out e):out.length ≤ 1000:=by
  rcases h with ⟨_,rfl,_⟩ | ⟨_,_,rfl,_⟩ | ⟨_,h,rfl,_⟩
  · simp
  · simp
  · exact h
theorem AddR.len {f out:List Lv} {fr to d e:Int} (h:AddR f fr to d out e):out.length ≤ 1000:=by
  rcases h with ⟨_,rfl,_⟩ | ⟨_,_,rfl,_⟩ | ⟨a,_,_,_,rfl,_⟩ | ⟨_,_,_,hP⟩
  · simp
  · simp
  · exact (chkS_ok a).1
  · exact hP.len
theorem SumR.len {f g out:List Lv} {e:Int} (h:SumR f g out e):out.length ≤ 1000:=by
  rcases h with ⟨_,rfl,_⟩ | ⟨_,_,hP⟩
  · simp
  · exact hP.len
end Go.Step
namespace Go.Step
theorem tms_len (f g:List Lv):(tms f g).length ≤ f.length + g.length:=by
  obtain ⟨hsa,hmem⟩:=tms_sa f g
  have h2:=SA.len (f:=(f ++ g).map (·.a)) hsa (fun x hx=>by
    obtain ⟨l,hl,rfl⟩:=(hmem x).1 hx
    exact List.mem_map.2 ⟨l,hl,rfl⟩)
  rw [List.length_map,List.length_append] at h2;exact h2
theorem CombP.len2 {F:Int → Int} {ts:List Int} {out:List Lv} {e:Int} (h:CombP F ts out e):out.length ≤ ts.length:=by
  rcases h with ⟨_,rfl,_⟩ | ⟨_,_,rfl,_⟩ | ⟨_,_,rfl,_⟩
  · simp
  · simp
  · exact comb_len F ts 0
theorem AddR.len2 {f out:List Lv} {fr to d e:Int} (h:AddR f fr to d out e):out.length ≤ f.length + 2:=by
  rcases h with ⟨_,rfl,_⟩ | ⟨_,_,rfl,_⟩ | ⟨a,_,_,_,rfl,_⟩ | ⟨_,_,_,hP⟩
  · simp
  · simp
  · omega
  · have:=hP.len2
    have:=tms_len f (bump fr to d)
    have:(bump fr to d).length = 2:=rfl
    omega
theorem okV_val {f:List Lv} (h:chkS f = 0) (t:Int):okV (val f t):=by
  have hA:=(chkS_ok h).2
  rcases vat_mem f 0 t with e | ⟨l,hl,e⟩
  · unfold okV val; rw [e]; omega
  · unfold okV val
    rw [e]
    have:=hA.gt l hl
    omega
theorem AddR.cond {f out:List Lv} {fr to d:Int} (h:AddR f fr to d out 0):(0 ≤ fr ∧ fr ≤ to ∧ to ≤ 1099511627776) ∧ -2251799813685248 ≤ d ∧ d ≤ 2251799813685248:=by
  rcases h with ⟨_,_,h⟩ | ⟨_,_,_,h⟩ | ⟨_,b,c,_⟩ | ⟨_,b,c,_⟩
  · simp at h
  · simp at h
  · exact ⟨b,c⟩
  · exact ⟨by omega,c⟩
theorem AddR.back {f p out:List Lv} {fr to d e:Int} (h:AddR f fr to d p 0) (hl:f.length ≤ 900) (h':AddR p fr to (-d) out e):e = 0 ∧ out = f:=by
  obtain ⟨c1,c2,c3⟩:=h.cond
  obtain ⟨h1,h2,h3⟩:=h.ok
  have hlp:=h.len2
  have hneg:∀ t:Int,-1 ≤ t → val p t + (if fr ≤ t ∧ t < to then -d else 0) = val f t:=fun t ht=>by
    rw [h3 t ht]
    by_cases hc:fr ≤ t ∧ t < to
    · rw [if_pos hc,if_pos hc]; omega
    · rw [if_neg hc,if_neg hc]; omega
  have he:e = 0:=h'.err0 h2 c1 (by omega) (fun t=>by
    by_cases ht:-1 ≤ t
    · rw [hneg t ht]; exact okV_val h1 t
    · rw [if_neg (by omega)]
      have:=okV_val h2 t
      unfold okV at this ⊢
      omega) (by omega)
  subst he
  obtain ⟨_,k2,k3⟩:=h'.ok
  exact ⟨rfl,chkS_unique k2 h1 (fun t ht=>by rw [k3 t ht,hneg t ht])⟩
theorem AddR.swap {f p q r s:List Lv} {a1 a2 a b1 b2 b:Int} (h1:AddR f a1 a2 a p 0) (h2:AddR p b1 b2 b q 0) (h3:AddR f b1 b2 b r 0) (h4:AddR r a1 a2 a s 0):q = s:=by
  obtain ⟨_,_,e1⟩:=h1.ok
  obtain ⟨_,k2,e2⟩:=h2.ok
  obtain ⟨_,_,e3⟩:=h3.ok
  obtain ⟨_,k4,e4⟩:=h4.ok
  exact chkS_unique k2 k4 (fun t ht=>by rw [e2 t ht,e1 t ht,e4 t ht,e3 t ht]; omega)
theorem SumR.ok {f g o:List Lv} (h:SumR f g o 0):chkS f = 0 ∧ chkS g = 0 ∧ chkS o = 0 ∧ ∀ t:Int,-1 ≤ t → val o t = val f t + val g t:=by
  rcases h with ⟨_,_,h⟩ | ⟨a,b,c⟩
  · simp at h
  · obtain ⟨h1,h2⟩:=CombP.ok (op:=(· + ·)) (chkS_ok a).2.t (chkS_ok b).2.t rfl c
    exact ⟨a,b,h1,h2⟩
end Go.Step
/- Parts cover an interval; greatest and least values are values. No program in sight. No conditions. -/
namespace Go.Step
end Go.Step
/- Where a function is low: intervals apart from each other. No program in sight. No conditions. -/
namespace Go.Step
def Chn (a:Int):List Pt → Int → Prop
  | [],b=>a = b
  | p :: ps,b=>p.1.1 = a ∧ a < p.1.2 ∧ Chn p.1.2 ps b
def Cov (l:List (Int × Int)) (t:Int):Prop:=∃ s ∈ l,s.1 ≤ t ∧ t < s.2
structure Apart (lo a:Int) (l:List (Int × Int)):Prop where
  ok:∀ s ∈ l,lo ≤ s.1 ∧ s.1 < s.2 ∧ s.2 ≤ a
  sep:l.Pairwise (fun s t=>s.2 < t.1)
end Go.Step
/- The free spans of a node are exactly the times with room. No program in sight. No conditions. -/
namespace Go.Step
structure InvF (Q s:Int) (G:Int → Int) (T v:Int) (st:Int × List (Int × Int)):Prop where
  ap:Apart 0 T st.2
  fr:st.1 = -1 ∨ (0 ≤ st.1 ∧ st.1 ≤ T ∧ ∀ u ∈ st.2,u.2 < st.1)
  cov:∀ t,0 ≤ t → t < T → ((Cov st.2 t ∨ (0 ≤ st.1 ∧ st.1 ≤ t)) ↔ G t + s ≤ Q)
  now:0 ≤ st.1 ↔ v + s ≤ Q
theorem cov_snoc (l:List (Int × Int)) (x:Int × Int) (t:Int):Cov (l ++ [x]) t ↔ Cov l t ∨ (x.1 ≤ t ∧ t < x.2):=by
  unfold Cov
  constructor
  · rintro ⟨s,hs,h⟩
    rcases List.mem_append.1 hs with hs | hs
    · exact .inl ⟨s,hs,h⟩
    · simp only [List.mem_singleton] at hs; subst hs; exact .inr h
  · rintro (⟨s,hs,h⟩ | h)
    · exact ⟨s,by simp [hs],h⟩
    · exact ⟨x,by simp,h⟩
theorem apart_snoc {T T':Int} {l:List (Int × Int)} {x:Int × Int} (h:Apart 0 T l) (hT:T ≤ T') (hx:0 ≤ x.1 ∧ x.1 < x.2 ∧ x.2 ≤ T') (hs:∀ u ∈ l,u.2 < x.1):Apart 0 T' (l ++ [x]):=by
  refine ⟨fun s hm=>?_,List.pairwise_append.2 ⟨h.sep,by simp,fun a ha b hb=>?_⟩⟩
  · rcases List.mem_append.1 hm with hm | hm
    · have:=h.ok s hm; omega
    · simp only [List.mem_singleton] at hm; subst hm; exact hx
  · simp only [List.mem_singleton] at hb; subst hb; exact hs a ha
theorem apart_mono {T T':Int} {l:List (Int × Int)} (h:Apart 0 T l) (hT:T ≤ T'):Apart 0 T' l:=⟨fun s hm=>by have:=h.ok s hm; omega,h.sep⟩
theorem InvF.step {Q s:Int} {G:Int → Int} {T v:Int} {st:Int × List (Int × Int)} (h:InvF Q s G T v st) {T' v':Int} (h0:0 ≤ T) (hT:T < T' ∨ (T = T' ∧ st.2 = [])) (hG:∀ t,T ≤ t → t < T' → G t = v):InvF Q s G T' v' (frA Q s st T' v'):=by
  have hle:T ≤ T':=by omega
  obtain ⟨fr,out⟩:=st
  obtain ⟨hap,hfr,hcov,hnow⟩:=h
  dsimp only at hap hfr hcov hnow hT
  unfold frA
  by_cases hc:Q - v' < s
  · rw [if_pos hc]
    dsimp only
    by_cases ho:0 ≤ fr ∧ fr < T'
    · rw [if_pos ho]
      have hsep:∀ u ∈ out,u.2 < fr:=by rcases hfr with h | h; omega; exact h.2.2
      refine ⟨apart_snoc hap hle ⟨ho.1,ho.2,Int.le_refl _⟩ hsep,.inl rfl,fun t ht ht2=>?_,by constructor <;> intro h <;> omega⟩
      dsimp only
      rw [cov_snoc]
      dsimp only
      by_cases c:t < T
      · have:=hcov t ht c
        rw [← this]
        constructor
        · rintro ((h | h) | h)
          · exact .inl h
          · exact .inr ⟨ho.1,h.1⟩
          · omega
        · rintro (h | h)
          · exact .inl (.inl h)
          · exact .inl (.inr ⟨h.2,ht2⟩)
      · rw [hG t (by omega) ht2]
        have:=hnow.1 ho.1
        constructor
        · intro _; exact this
        · intro _
          refine .inl (.inr ⟨?_,ht2⟩)
          rcases hfr with h | h <;> omega
    · rw [if_neg ho]
      refine ⟨apart_mono hap hle,.inl rfl,fun t ht ht2=>?_,by constructor <;> intro h <;> dsimp only at * <;> omega⟩
      dsimp only
      by_cases c:t < T
      · rw [← hcov t ht c]
        constructor
        · rintro (h | h)
          · exact .inl h
          · omega
        · rintro (h | h)
          · exact .inl h
          · omega
      · rw [hG t (by omega) ht2]
        constructor
        · rintro (⟨u,hu,h⟩ | h)
          · have:=hap.ok u hu; omega
          · omega
        · intro h
          have:=hnow.2 h
          exact absurd ⟨this,by rcases hfr with k | k <;> omega⟩ ho
  · rw [if_neg hc]
    dsimp only
    by_cases ho:fr < 0
    · rw [if_pos ho]
      refine ⟨apart_mono hap hle,.inr ⟨by dsimp only; omega,Int.le_refl _,fun u hu=>?_⟩,fun t ht ht2=>?_,by constructor <;> intro h <;> dsimp only at * <;> omega⟩
      · dsimp only at hu ⊢
        have:=hap.ok u hu
        rcases hT with h | h
        · omega
        · rw [h.2] at hu; simp at hu
      · dsimp only
        by_cases c:t < T
        · rw [← hcov t ht c]
          constructor
          · rintro (h | h)
            · exact .inl h
            · omega
          · rintro (h | h)
            · exact .inl h
            · omega
        · rw [hG t (by omega) ht2]
          constructor
          · rintro (⟨u,hu,h⟩ | h)
            · have:=hap.ok u hu; omega
            · omega
          · intro h
            have:=hnow.2 h; omega
    · rw [if_neg ho]
      have hf:0 ≤ fr ∧ fr ≤ T ∧ ∀ u ∈ out,u.2 < fr:=by
        rcases hfr with h | h
        · omega
        · exact h
      refine ⟨apart_mono hap hle,.inr ⟨hf.1,by dsimp only; omega,hf.2.2⟩,fun t ht ht2=>?_,by constructor <;> intro h <;> dsimp only at * <;> omega⟩
      dsimp only
      by_cases c:t < T
      · exact hcov t ht c
      · rw [hG t (by omega) ht2]
        have:=hnow.1 hf.1
        constructor
        · intro _; exact this
        · intro _; exact .inr ⟨hf.1,by omega⟩
end Go.Step
/- Laws on holds: some released, one more, in whatever order. No program in sight. No conditions. -/
namespace Go.Step
end Go.Step
/- Bookings of contacts; tables. No program in sight. No conditions. -/
namespace Go.Step
structure Bk where
  c:Int
  a:Int
  b:Int
  k:Int
deriving DecidableEq
def okBk (cs:List Ct) (x:Bk):Prop:=(0 ≤ x.c ∧ x.c < cs.length ∧ 0 ≤ x.k ∧ x.k ≤ 1152921504606846976) ∧ ∃ c,cs[x.c.toNat]? = some c ∧ c.s ≤ x.a ∧ x.a < x.b ∧ x.b ≤ c.e
def okBkB (cs:List Ct) (x:Bk):Bool:=decide (0 ≤ x.c ∧ x.c < cs.length ∧ 0 ≤ x.k ∧ x.k ≤ 1152921504606846976) && (match cs[x.c.toNat]? with
  | some c=>decide (c.s ≤ x.a ∧ x.a < x.b ∧ x.b ≤ c.e)
  | none=>false)
theorem okBkB_iff (cs:List Ct) (x:Bk):okBkB cs x = true ↔ okBk cs x:=by
  unfold okBkB okBk;rw [Bool.and_eq_true,decide_eq_true_iff]
  cases h:cs[x.c.toNat]? with
  | none=>simp
  | some c=>simp
def cmpBk (x y:Bk):Int:=orI [cmpI x.c y.c,cmpI x.a y.a]
theorem cmpBk_lt (x y:Bk):cmpBk x y < 0 ↔ x.c < y.c ∨ (x.c = y.c ∧ x.a < y.a):=by
  unfold cmpBk
  rcases orI_cmp x.c y.c [cmpI x.a y.a] with ⟨h1,e⟩ | ⟨h1,e⟩ | ⟨h1,e⟩
  · rw [e]; omega
  · rw [e]
    rcases orI_cmp x.a y.a [] with ⟨h2,e⟩ | ⟨h2,e⟩ | ⟨h2,e⟩
    · rw [e]; omega
    · rw [e]; simp only [orI]; omega
    · rw [e]; omega
  · rw [e]; omega
def bk2E (p x:Bk):Int:=if ¬ cmpBk p x < 0 then 9 else if p.c = x.c ∧ x.a < p.b then 14 else 0
def bkE (cs:List Ct) (l:List Bk) (i:Nat):Int:=match l[i]? with
  | some x=>if okBkB cs x = false then 2 else if i = 0 then 0 else bk2E (l.getD (i - 1) x) x
  | none=>0
theorem bkE_at {cs:List Ct} {l:List Bk} {i:Nat} {x:Bk} (e:l[i]? = some x):bkE cs l i = if okBkB cs x = false then 2 else if i = 0 then 0 else bk2E (l.getD (i - 1) x) x:=by unfold bkE; rw [e]
def chkB (qs:List Int) (cs:List Ct) (l:List Bk):Int:=
  if chkPl qs cs ≠ 0 then 1 else if 512 < l.length then 4 else firstE (bkE cs l) l.length
def chkT (qs:List Int) (cs:List Ct) (bs:List Bk) (hs:List Hd):Int:=
  if chkPl qs cs ≠ 0 then chkPl qs cs else if chkB qs cs bs ≠ 0 then chkB qs cs bs else chkH qs cs hs
def busyL (l:List Bk) (c:Int):List (Int × Int):=(l.filter (fun x=>decide (x.c = c))).map (fun x=>(x.a,x.b))
theorem busyL_next (c:Int) {l:List Bk} {k:Nat} {x:Bk} (h:l[k]? = some x):busyL (l.take (k + 1)) c = busyL (l.take k) c ++ (if x.c = c then [(x.a,x.b)] else []):=by
  obtain ⟨hk,rfl⟩:=List.getElem?_eq_some_iff.1 h
  unfold busyL;rw [List.take_succ_eq_append_getElem hk,List.filter_append,List.map_append]
  congr 1
  by_cases e:l[k].c = c
  · simp [e]
  · simp [e]
theorem busyL_len (l:List Bk) (c:Int):(busyL l c).length ≤ l.length:=by
  unfold busyL;rw [List.length_map];exact List.length_filter_le _ _
def bookedB (l:List Bk) (c t:Int):Bool:=(busyL l c).any (fun x=>decide (x.1 ≤ t) && decide (t < x.2))
theorem bkE_ok {cs:List Ct} {l:List Bk} (h:firstE (bkE cs l) l.length = 0):∀ x ∈ l,okBk cs x:=fun x hx=>by
  obtain ⟨i,hi,rfl⟩:=List.getElem_of_mem hx
  have h2:=firstE_zero h i hi
  rw [bkE_at (List.getElem?_eq_getElem hi)] at h2
  cases hc:okBkB cs l[i] with
  | true=>exact (okBkB_iff _ _).1 hc
  | false=>rw [if_pos hc] at h2; omega
theorem chkT_ok {qs:List Int} {cs:List Ct} {bs:List Bk} {hs:List Hd} (h:chkT qs cs bs hs = 0):chkPl qs cs = 0 ∧ chkB qs cs bs = 0 ∧ chkH qs cs hs = 0:=by
  unfold chkT at h
  by_cases h1:chkPl qs cs = 0
  · rw [if_neg (by simpa using h1)] at h
    by_cases h2:chkB qs cs bs = 0
    · rw [if_neg (by simpa using h2)] at h
      exact ⟨h1,h2,h⟩
    · rw [if_pos h2] at h; exact absurd h h2
  · rw [if_pos h1] at h; exact absurd h h1
theorem chkB_ok {qs:List Int} {cs:List Ct} {bs:List Bk} (h:chkB qs cs bs = 0):bs.length ≤ 512 ∧ firstE (bkE cs bs) bs.length = 0:=by
  unfold chkB at h
  by_cases h1:chkPl qs cs = 0
  · rw [if_neg (by simpa using h1)] at h
    by_cases h2:512 < bs.length
    · rw [if_pos h2] at h; omega
    · rw [if_neg h2] at h; exact ⟨by omega,h⟩
  · rw [if_pos h1] at h; omega
end Go.Step
/- Bookings: checked. -/
namespace Go.Proofs.YtphehihohghfoaaGreat
open Go.Eng Go.Step
set_option maxRecDepth 100000
set_option maxHeartbeats 4000000

set_option maxHeartbeats 16000000 in
theorem bkValid_spec (τ:PH) (pq pc:Option Addr) (nq kq kc:Nat) (cs:List Ct) (x:Bk) (hc:CtAt τ (.slice pc cs.length kc) cs) :
  Ans Tryz.prog (fv 159) [.agg #[.slice pq nq kq,.slice pc cs.length kc],.agg #[int x.c,int x.a,int x.b,int x.k]] [τ] (fun r=>r = .bool (okBkB cs x)):=by
 obtain ⟨_,_,e,hrc⟩:=hc.val encC_len
 simp only [Value.slice.injEq] at e
 obtain ⟨rfl,_,rfl⟩:=e
 refine spec_in (cap:=[]) Tryz.func159 rfl rfl Tryz.ntmps159 rfl envZ (fun N β=>?_)
 refine Aa ?_;refine BI (BK rfl) rfl rfl rfl ?_;rintro _ _ ⟨b2,rfl,rfl⟩;refine AS (ρ:=sng b2 _) takeZ ?_
 have cp:=rdB b2 25 [.slice pq nq kq,.slice pc cs.length kc]
 have cp1:=rdC cp 1
 refine BI (BK rfl) rfl rfl rfl ?_;rintro _ _ ⟨b3,rfl,rfl⟩;refine AS (ρ:=sng b3 _) takeZ ?_
 have cx:=rdB b3 100 [int x.c,int x.a,int x.b,int x.k]
 have cx0:=rdC cx 0
 have cx1:=rdC cx 1
 have cx2:=rdC cx 2
 have cx3:=rdC cx 3
 by_cases hin:0 ≤ x.c ∧ x.c < cs.length ∧ 0 ≤ x.k ∧ x.k ≤ 1152921504606846976
 ·obtain ⟨nn,hnn⟩:∃ nn:Nat,x.c = nn:=⟨x.c.toNat,by omega⟩
  have hlt:nn < cs.length:=by omega
  have hx:=List.getElem?_eq_getElem hlt
  obtain ⟨b1,o1,rfl,hrd⟩:=ctRow hrc hx
  have hok:okBkB cs x = decide (cs[nn].s ≤ x.a ∧ x.a < x.b ∧ x.b ≤ cs[nn].e):=by
   unfold okBkB;rw [decide_eq_true hin,Bool.true_and,hnn,Int.toNat_natCast,hx]
  rw [hok]
  have cn:rdc (sng b3 (.cells #[int x.c,int x.a,int x.b,int x.k] 100 (0,0))) b3 0 = some (int nn):=by rw [rdc_sng,← hnn]; rfl
  clear cx0 hok
  generalize cs[nn] = c at hrd
  refine Abm ?_;refine Aej ?_;refine Abh ?_;refine Ads ?_;refine Ace ?_;refine Abf ?_;refine AW ?_; rintro _ _ ⟨b,rfl,rfl⟩;refine AV ?_; rintro _ _ ⟨rfl,rfl⟩;refine AE ?_;refine Ace ?_
  by_cases h1:c.s ≤ x.a
  ·by_cases h2:x.a < x.b
   ·by_cases h3:x.b ≤ c.e
    ·rw [decide_eq_true ⟨h1,h2,h3⟩]
     refine CC ?_;refine Aa9 ?_;refine A9 ?_;refine Ac5 ?_;refine CL ?_;refine Ab2 ?_;exact AI (res1 rfl rfl) rsubZ selZ ⟨rfl,rfl⟩
    ·rw [decide_eq_false (fun h=>h3 h.2.2)]
     refine CC ?_;refine Aa9 ?_;refine A9 ?_;refine Ac5 ?_;refine CJ ?_;refine Ab2 ?_;exact AI (res1 rfl rfl) rsubZ selZ ⟨rfl,rfl⟩
   ·rw [decide_eq_false (fun h=>h2 h.2.1)]
    refine CC ?_;refine Aa9 ?_;refine AY ?_;refine AL ?_;refine Ab0 ?_;refine Abx ?_;exact AI (res1 rfl rfl) rsubZ selZ ⟨rfl,rfl⟩
  ·rw [decide_eq_false (fun h=>h1 h.1)]
   refine BJ ?_;refine Ab0 ?_;refine AJ ?_;refine Ab0 ?_;refine Abx ?_;exact AI (res1 rfl rfl) rsubZ selZ ⟨rfl,rfl⟩
 ·have hok:okBkB cs x = false:=by
   unfold okBkB;rw [decide_eq_false hin,Bool.false_and]
  rw [hok]
  by_cases h1:x.c < 0
  ·refine AD ?_
   refine Aak ?_;refine Aao ?_;refine A9 ?_;refine Ack ?_;refine AL ?_;refine Adk ?_;exact AI (res1 rfl rfl) rsubZ selZ ⟨rfl,rfl⟩
  by_cases h2:(cs.length:Int) ≤ x.c
  ·refine AD ?_
   refine Aak ?_;refine Aej ?_;refine CC ?_;refine AJ ?_;refine Adk ?_;exact AI (res1 rfl rfl) rsubZ selZ ⟨rfl,rfl⟩
  by_cases h3:x.k < 0
  ·refine AD ?_
   refine Aak ?_;refine Aej ?_;refine Abh ?_;refine A9 ?_;refine AJ ?_;refine Acw ?_;exact AI (res1 rfl rfl) rsubZ selZ ⟨rfl,rfl⟩
  by_cases h4:1152921504606846976 < x.k
  ·refine AD ?_
   refine Aak ?_;refine Aej ?_;refine Abh ?_;refine Abd ?_;refine CI ?_;refine Ac9 ?_;exact AI (res1 rfl rfl) rsubZ selZ ⟨rfl,rfl⟩
  ·exfalso; omega
set_option maxHeartbeats 16000000 in
theorem refBkValid_spec (τ:PH) (pq pc:Option Addr) (nq kq kc:Nat) (cs:List Ct) (x:Bk) (hc:CtAt τ (.slice pc cs.length kc) cs) :
  Ans Tryz.prog (fv 125) [.agg #[.slice pq nq kq,.slice pc cs.length kc],.agg #[int x.c,int x.a,int x.b,int x.k]] [τ] (fun r=>r = .bool (okBkB cs x)):=by
 obtain ⟨_,_,e,hrc⟩:=hc.val encC_len
 simp only [Value.slice.injEq] at e
 obtain ⟨rfl,_,rfl⟩:=e
 refine spec_in (cap:=[]) Tryz.func125 rfl rfl Tryz.ntmps125 rfl envZ (fun N β=>?_)
 refine Aa ?_;refine BI (BK rfl) rfl rfl rfl ?_;rintro _ _ ⟨b2,rfl,rfl⟩;refine AS (ρ:=sng b2 _) takeZ ?_
 have cp:=rdB b2 25 [.slice pq nq kq,.slice pc cs.length kc]
 have cp1:=rdC cp 1
 refine BI (BK rfl) rfl rfl rfl ?_;rintro _ _ ⟨b3,rfl,rfl⟩;refine AS (ρ:=sng b3 _) takeZ ?_
 have cx:=rdB b3 100 [int x.c,int x.a,int x.b,int x.k]
 have cx0:=rdC cx 0
 have cx1:=rdC cx 1
 have cx2:=rdC cx 2
 have cx3:=rdC cx 3
 by_cases hin:0 ≤ x.c ∧ x.c < cs.length ∧ 0 ≤ x.k ∧ x.k ≤ 1152921504606846976
 ·obtain ⟨nn,hnn⟩:∃ nn:Nat,x.c = nn:=⟨x.c.toNat,by omega⟩
  have hlt:nn < cs.length:=by omega
  have hx:=List.getElem?_eq_getElem hlt
  obtain ⟨b1,o1,rfl,hrd⟩:=ctRow hrc hx
  have hok:okBkB cs x = decide (cs[nn].s ≤ x.a ∧ x.a < x.b ∧ x.b ≤ cs[nn].e):=by
   unfold okBkB;rw [decide_eq_true hin,Bool.true_and,hnn,Int.toNat_natCast,hx]
  rw [hok]
  have cn:rdc (sng b3 (.cells #[int x.c,int x.a,int x.b,int x.k] 100 (0,0))) b3 0 = some (int nn):=by rw [rdc_sng,← hnn]; rfl
  clear cx0 hok
  generalize cs[nn] = c at hrd
  refine Abm ?_;refine Aej ?_;refine Abh ?_;refine Ads ?_;refine Ace ?_;refine Abf ?_;refine AW ?_; rintro _ _ ⟨b,rfl,rfl⟩;refine AV ?_; rintro _ _ ⟨rfl,rfl⟩;refine AE ?_;refine Ace ?_
  by_cases h1:c.s ≤ x.a
  ·by_cases h2:x.a < x.b
   ·by_cases h3:x.b ≤ c.e
    ·rw [decide_eq_true ⟨h1,h2,h3⟩]
     refine CL ?_;refine Aa9 ?_;refine A9 ?_;refine Ac5 ?_;refine CL ?_;refine Ab2 ?_;exact AI (res1 rfl rfl) rsubZ selZ ⟨rfl,rfl⟩
    ·rw [decide_eq_false (fun h=>h3 h.2.2)]
     refine CL ?_;refine Aa9 ?_;refine A9 ?_;refine Ac5 ?_;refine CJ ?_;refine Ab2 ?_;exact AI (res1 rfl rfl) rsubZ selZ ⟨rfl,rfl⟩
   ·rw [decide_eq_false (fun h=>h2 h.2.1)]
    refine CL ?_;refine Aa9 ?_;refine AY ?_;refine AL ?_;refine Ab0 ?_;refine Abx ?_;exact AI (res1 rfl rfl) rsubZ selZ ⟨rfl,rfl⟩
  ·rw [decide_eq_false (fun h=>h1 h.1)]
   refine CJ ?_;refine Ab0 ?_;refine AJ ?_;refine Ab0 ?_;refine Abx ?_;exact AI (res1 rfl rfl) rsubZ selZ ⟨rfl,rfl⟩
 ·have hok:okBkB cs x = false:=by
   unfold okBkB;rw [decide_eq_false hin,Bool.false_and]
  rw [hok]
  by_cases h1:x.c < 0
  ·refine AD ?_
   refine Aak ?_;refine Aao ?_;refine A9 ?_;refine Ack ?_;refine AL ?_;refine Adk ?_;exact AI (res1 rfl rfl) rsubZ selZ ⟨rfl,rfl⟩
  by_cases h2:(cs.length:Int) ≤ x.c
  ·refine AD ?_
   refine Aak ?_;refine Aej ?_;refine CC ?_;refine AJ ?_;refine Adk ?_;exact AI (res1 rfl rfl) rsubZ selZ ⟨rfl,rfl⟩
  by_cases h3:x.k < 0
  ·refine AD ?_
   refine Aak ?_;refine Aej ?_;refine Abh ?_;refine A9 ?_;refine AJ ?_;refine Acw ?_;exact AI (res1 rfl rfl) rsubZ selZ ⟨rfl,rfl⟩
  by_cases h4:1152921504606846976 < x.k
  ·refine AD ?_
   refine Aak ?_;refine Aej ?_;refine Abh ?_;refine Abd ?_;refine CI ?_;refine Ac9 ?_;exact AI (res1 rfl rfl) rsubZ selZ ⟨rfl,rfl⟩
  ·exfalso; omega
def encB (x:Bk):List Value:=[int x.c,int x.a,int x.b,int x.k]
theorem encB_len (x:Bk):(encB x).length = 4:=rfl
abbrev BkAt (ρ:PH) (v:Value) (l:List Bk):Prop:=SlE encB 4 ρ v l
theorem bkRow {ρ:PH} {p:Option Addr} {l:List Bk} (h:RowsE encB 4 ρ p l) {i:Nat} {x:Bk} (hx:l[i]? = some x) :
  ∃ b o,p = some ⟨b,o,none⟩ ∧ RdN ρ b (o + i * 4) [int x.c,int x.a,int x.b,int x.k] ∧ rdc ρ b (o + i * 4) = some (int x.c) ∧ rdc ρ b (o + i * 4 + 1) = some (int x.a) ∧ rdc ρ b (o + i * 4 + 2) = some (int x.b) ∧ rdc ρ b (o + i * 4 + 3) = some (int x.k):=by
 obtain ⟨b,o,e,hr⟩:=h i x hx
 exact ⟨b,o,e,hr,hr.get0,hr.get (j:=1) rfl,hr.get (j:=2) rfl,hr.get (j:=3) rfl⟩
set_option maxHeartbeats 16000000 in
theorem bkCompare_spec (x y:Bk):Ans Tryz.prog (fv 160) [.agg #[int x.c,int x.a,int x.b,int x.k],.agg #[int y.c,int y.a,int y.b,int y.k]] [] (fun r=>r = int (cmpBk x y)):=by
 refine spec_in (cap:=[]) Tryz.func160 rfl rfl Tryz.ntmps160 rfl envZ (fun N β=>?_)
 refine Aa ?_;refine B7 ?_; rintro _ _ ⟨b,rfl,rfl⟩;refine B7 ?_; rintro _ _ ⟨b,rfl,rfl⟩;refine Abm ?_
 refine A5 (.q 0 (.q 1 (.q 2 (.q 3 (.q 5 (.q 6 (.q 7 (.q 8 (.l 4 .e (.l 9 .e (.l 10 .e (.l 11 .e (.q 12 .nil))))))))))))) [] rfl (by kernel_rfl) selZ ?_
 refine Ac8 ?_;refine Ac8 ?_
 focus ((refine CO (CH rfl (cmpI_spec _ _) rfl rfl rdZ rfl rfl ?_); rintro _ rfl))
 focus ((refine CO (CH rfl (cmpI_spec _ _) rfl rfl rdZ rfl rfl ?_); rintro _ rfl))
 refine B0 ?_; rintro _ _ ⟨b,rfl,rfl⟩
 revert b; intro bo
 refine CO (CH rfl (or_spec (sng bo _) _ [cmpI x.c y.c,cmpI x.a y.a] (slE_sng Eng.encI_len) (by simp)) rfl rfl rdZ rfl rfl ?_)
 rintro _ rfl;refine Adw ?_
 skip
 exact AI (res1 rfl rfl) rsubZ selZ ⟨rfl,rfl⟩
set_option maxHeartbeats 32000000 in
theorem bkCheck_spec (ρ τ σ:PH) (pq pc:Option Addr) (kq kc:Nat) (qs:List Int) (cs:List Ct) (v:Value) (l:List Bk) (hq:IntsAt ρ (.slice pq qs.length kq) qs) (hc:CtAt τ (.slice pc cs.length kc) cs) (hcap:cs.length ≤ kc) (lq:qs.length ≤ 9223372036854775807) (lc:cs.length ≤ 9223372036854775807) (hv:BkAt σ v l) (hl:l.length ≤ 9223372036854775807) :
  Ans Tryz.prog (fv 146) [.agg #[.slice pq qs.length kq,.slice pc cs.length kc],v] [ρ,τ,σ] (fun r=>r = int (chkB qs cs l)):=by
 have hv2:=hv
 obtain ⟨q,c,rfl,hr⟩:=hv.val encB_len
 refine spec_in (cap:=[]) Tryz.func146 rfl rfl Tryz.ntmps146 rfl envZ (fun N β=>?_)
 refine Aa ?_;refine BI (BK rfl) rfl rfl rfl ?_;rintro _ _ ⟨b1,rfl,rfl⟩;refine AS (ρ:=sng b1 _) takeZ ?_
 have c1:=rdB b1 25 [.slice pq qs.length kq,.slice pc cs.length kc]
 refine Abm ?_;refine Abo ?_;refine A3 (planCheck_spec ρ τ pq pc kq kc qs cs hq hc hcap lq lc) rfl rfl rdZ rfl rfl ?_;rintro _ rfl;unfold chkB
 by_cases hp:chkPl qs cs = 0
 rotate_left
 ·rw [if_pos hp]
  generalize chkPl qs cs = z at hp
  refine CG ?_;refine Aaz ?_;exact AI (res1 rfl rfl) rsubZ selZ ⟨rfl,rfl⟩
 rw [if_neg (fun h=>h hp),hp]
 by_cases hbig:512 < l.length
 ·rw [if_pos hbig]
  refine Ad7 ?_;refine CI ?_;refine Aaz ?_;exact AI (res1 rfl rfl) rsubZ selZ ⟨rfl,rfl⟩
 rw [if_neg hbig];refine Ad7 ?_;refine Aed ?_;refine Ab8 ?_
 refine BC [1,2,13,14] (0:Nat) (fun k=>k ≤ l.length ∧ firstE (bkE cs l) k = 0) (fun k=>[(15,int k)]) (fun _=>[]) (fun k=>l.length - k) pickZ ⟨by omega,rfl⟩ covZ selZ ?_
 rintro k ⟨hk,hI⟩
 by_cases hlt:k < l.length
 ·have hx:=List.getElem?_eq_getElem hlt
  obtain ⟨b2,o2,rfl,hrd,g0,g1,g2,g3⟩:=bkRow hr hx
  have hE:=bkE_at (cs:=cs) hx
  generalize l[k] = x at hrd g0 g1 g2 g3 hE
  refine Adi ?_;refine AW ?_; rintro _ _ ⟨b,rfl,rfl⟩;refine AD ?_;refine AV ?_; rintro _ _ ⟨rfl,rfl⟩;refine Aak ?_;refine Ab5 ?_
  revert b; intro b6
  refine A3 (bkValid_spec τ pq pc qs.length kq kc cs x hc) rfl rfl rdZ rfl rfl ?_;rintro _ rfl
  cases hok:okBkB cs x with
  | false =>
   rw [if_pos hok] at hE
   have hh:=firstE_hit hI (by rw [hE]; decide) _ hlt
   rw [hh,hE];refine BD ?_;refine Aaz ?_;exact AI (res1 rfl rfl) rsubZ selZ ⟨rfl,rfl⟩
  | true =>
  rw [if_neg (by rw [hok]; simp)] at hE
  by_cases h0:k = 0
  ·subst h0
   rw [if_pos rfl] at hE;refine Acc ?_;refine Aam ?_;refine CK ?_;refine Aag ?_;refine A7 rfl ?_;refine AA ?_;refine Aa3 ?_
   exact AZ (0 + 1) ⟨by omega,firstE_ok hI hE⟩ (by omega) covZ selZ
  ·have hlt':k - 1 < l.length:=by omega
   have hx':=List.getElem?_eq_getElem hlt'
   obtain ⟨_,_,e,hrd',p0,p1,p2,p3⟩:=bkRow hr hx'
   simp only [Option.some.injEq,Addr.mk.injEq,and_true] at e
   obtain ⟨rfl,rfl⟩:=e
   rw [if_neg h0,List.getD_eq_getElem?_getD,hx',Option.getD_some] at hE
   generalize l[k - 1] = p at hrd' p0 p1 p2 p3 hE
   have hle:=bkCompare_spec p x
   unfold bk2E at hE
   generalize cmpBk p x = z at hle hE
   refine Acc ?_;refine Aam ?_;refine B5 ?_;refine Aal ?_;refine AC ?_;refine AC ?_
   refine A5 (.q 0 (.q 1 (.q 2 (.q 3 (.q 4 (.q 5 (.l 6 .e (.q 7 .nil)))))))) [sng b6 _] rfl (by kernel_rfl) selZ ?_
   refine Acj ?_;refine BR ?_;refine BR ?_;refine CO (CH rfl hle rfl rfl rdZ rfl rfl ?_);rintro _ rfl
   by_cases hc9:z < 0
   rotate_left
   ·rw [if_pos hc9] at hE
    have hh:=firstE_hit hI (by rw [hE]; decide) _ hlt
    rw [hh,hE];refine zd_ge ?_;refine Acz ?_;exact AI (res1 rfl rfl) rsubZ selZ ⟨rfl,rfl⟩
   rw [if_neg (fun h=>h hc9)] at hE
   refine zd_geF ?_;refine Aee ?_
   refine A5 (.q 0 (.q 1 (.q 2 (.q 3 (.q 4 (.q 5 (.q 6 (.q 7 (.q 8 (.q 9 (.q 10 (.q 11 (.q 12 (.q 13 (.q 14 (.q 15 (.q 16 (.q 17 (.q 18 (.q 19 .nil)))))))))))))))))))) [sng b6 _] rfl (by kernel_rfl) selZ ?_
   by_cases e1:p.c = x.c
   ·by_cases e2:x.a < p.b
    ·rw [if_pos ⟨e1,e2⟩] at hE
     have hh:=firstE_hit hI (by rw [hE]; decide) _ hlt
     rw [hh,hE];refine Aek ?_;refine Aaq ?_;refine EK ?_;refine Acn ?_;refine Ad9 ?_;refine E7 ?_;refine BW ?_;refine Acz ?_;exact AI (res1 rfl rfl) rsubZ selZ ⟨rfl,rfl⟩
    ·rw [if_neg (by omega)] at hE
     refine Aek ?_;refine Aaq ?_;refine EK ?_;refine Acn ?_;refine Ad9 ?_;refine DE ?_;refine BW ?_;refine Aei ?_
     exact AZ (k + 1) ⟨by omega,firstE_ok hI hE⟩ (by omega) covZ selZ
   ·rw [if_neg (by omega)] at hE
    refine Aek ?_;refine Aaq ?_;refine C7 ?_;refine Ad8 ?_;refine A0 rfl rfl rfl rfl rfl ?_;refine BN ?_;refine Aei ?_
    exact AZ (k + 1) ⟨by omega,firstE_ok hI hE⟩ (by omega) covZ selZ
 have hke:k = l.length:=by omega
 subst hke;rw [hI];refine Abt ?_;refine Aaj ?_;exact AI (res1 rfl rfl) rsubZ selZ ⟨rfl,rfl⟩
set_option maxHeartbeats 32000000 in
theorem refBkCheck_spec (ρ τ σ:PH) (pq pc:Option Addr) (kq kc:Nat) (qs:List Int) (cs:List Ct) (v:Value) (l:List Bk) (hq:IntsAt ρ (.slice pq qs.length kq) qs) (hc:CtAt τ (.slice pc cs.length kc) cs) (hcap:cs.length ≤ kc) (lq:qs.length ≤ 9223372036854775807) (lc:cs.length ≤ 9223372036854775807) (hv:BkAt σ v l) (hl:l.length ≤ 9223372036854775807) :
  Ans Tryz.prog (fv 90) [.agg #[.slice pq qs.length kq,.slice pc cs.length kc],v] [ρ,τ,σ] (fun r=>r = int (chkB qs cs l)):=by
 have hv2:=hv
 obtain ⟨q,c,rfl,hr⟩:=hv.val encB_len
 refine spec_in (cap:=[]) Tryz.func90 rfl rfl Tryz.ntmps90 rfl envZ (fun N β=>?_)
 refine Aa ?_;refine BI (BK rfl) rfl rfl rfl ?_;rintro _ _ ⟨b1,rfl,rfl⟩;refine AS (ρ:=sng b1 _) takeZ ?_
 have c1:=rdB b1 25 [.slice pq qs.length kq,.slice pc cs.length kc]
 refine Abm ?_;refine Abo ?_;refine A3 (refPlanCheck_spec ρ τ pq pc kq kc qs cs hq hc lq lc) rfl rfl rdZ rfl rfl ?_;rintro _ rfl;unfold chkB
 by_cases hp:chkPl qs cs = 0
 rotate_left
 ·rw [if_pos hp]
  generalize chkPl qs cs = z at hp
  refine CG ?_;refine Aaz ?_;exact AI (res1 rfl rfl) rsubZ selZ ⟨rfl,rfl⟩
 rw [if_neg (fun h=>h hp),hp]
 by_cases hbig:512 < l.length
 ·rw [if_pos hbig]
  refine Ad7 ?_;refine CI ?_;refine Aaz ?_;exact AI (res1 rfl rfl) rsubZ selZ ⟨rfl,rfl⟩
 rw [if_neg hbig];refine Ad7 ?_;refine Aed ?_;refine AC ?_;refine Aaj ?_;refine AP ?_
 refine BC [1,2] (0:Nat) (fun k=>k ≤ l.length ∧ firstE (bkE cs l) k = 0) (fun k=>[(5,int k)]) (fun _=>[]) (fun k=>l.length - k) pickZ ⟨by omega,rfl⟩ covZ selZ ?_
 rintro k ⟨hk,hI⟩
 by_cases hlt:k < l.length
 ·have hx:=List.getElem?_eq_getElem hlt
  obtain ⟨b2,o2,rfl,hrd,g0,g1,g2,g3⟩:=bkRow hr hx
  have hE:=bkE_at (cs:=cs) hx
  generalize l[k] = x at hrd g0 g1 g2 g3 hE
  refine Ab6 ?_;refine Adp ?_;refine AC ?_;refine AC ?_
  refine A5 (.q 0 (.q 1 (.q 2 (.q 3 (.q 4 (.l 5 .e (.q 6 .nil))))))) [] rfl (by kernel_rfl) Sel.nil ?_
  refine BR ?_;refine Ad ?_;refine BR ?_;refine CO (CH rfl (refBkValid_spec τ pq pc qs.length kq kc cs x hc) rfl rfl rdZ rfl rfl ?_);rintro _ rfl
  cases hok:okBkB cs x with
  | false =>
   rw [if_pos hok] at hE
   have hh:=firstE_hit hI (by rw [hE]; decide) _ hlt
   rw [hh,hE];refine CR ?_;refine Acz ?_;exact AI (res1 rfl rfl) rsubZ selZ ⟨rfl,rfl⟩
  | true =>
  rw [if_neg (by rw [hok]; simp)] at hE
  by_cases h0:k = 0
  ·subst h0
   rw [if_pos rfl] at hE;refine CR ?_;refine Aee ?_;refine AC ?_
   refine A5 (.q 0 (.q 1 (.q 2 (.q 3 (.q 4 (.q 5 (.q 6 (.q 7 (.q 8 (.q 9 (.q 10 (.q 11 (.q 12 (.q 13 (.q 14 (.q 15 .nil)))))))))))))))) [] rfl (by kernel_rfl) Sel.nil ?_
   refine AR ?_;refine EK ?_;refine Ad8 ?_;refine Ab9 ?_;refine BW ?_;refine Abs ?_;refine A7 rfl ?_;refine AA ?_;refine AB ?_;refine Ac2 ?_
   exact AZ (0 + 1) ⟨by omega,firstE_ok hI hE⟩ (by omega) covZ selZ
  ·have hlt':k - 1 < l.length:=by omega
   have hx':=List.getElem?_eq_getElem hlt'
   obtain ⟨_,_,e,hrd',p0,p1,p2,p3⟩:=bkRow hr hx'
   simp only [Option.some.injEq,Addr.mk.injEq,and_true] at e
   obtain ⟨rfl,rfl⟩:=e
   rw [if_neg h0,List.getD_eq_getElem?_getD,hx',Option.getD_some] at hE
   generalize l[k - 1] = p at hrd' p0 p1 p2 p3 hE
   have hlt3:=cmpBk_lt p x
   unfold bk2E at hE;refine CR ?_;refine Aee ?_;refine AC ?_
   refine A5 (.q 0 (.q 1 (.q 2 (.q 3 (.q 4 (.q 5 (.q 6 (.q 7 (.q 8 (.q 9 (.q 10 (.q 11 (.q 12 (.q 13 (.q 14 (.q 15 .nil)))))))))))))))) [] rfl (by kernel_rfl) Sel.nil ?_
   by_cases e1:p.c < x.c
   ·rw [if_neg (fun h=>h (hlt3.2 (.inl e1))),if_neg (by omega)] at hE
    refine AR ?_;refine C7 ?_;refine Aa6 ?_;refine AR ?_;refine BG ?_;refine Aco ?_;refine Aek ?_;refine DY ?_;refine BN ?_;refine Abs ?_;refine A7 rfl ?_;refine AA ?_;refine AB ?_;refine Ac2 ?_
    exact AZ (k + 1) ⟨by omega,firstE_ok hI hE⟩ (by omega) covZ selZ
   refine AR ?_;refine C7 ?_;refine Aa6 ?_;refine AR ?_;refine BG ?_;refine Aco ?_;refine Aek ?_;refine C3 ?_;refine BN ?_;refine Aee ?_;refine AC ?_
   refine A5 (.q 0 (.q 1 (.q 2 (.q 3 (.q 4 (.q 5 (.q 6 (.q 7 (.q 8 (.q 9 (.q 10 (.q 11 (.q 12 (.q 13 (.q 14 (.q 15 (.q 16 (.q 17 (.q 18 (.q 19 (.q 20 (.q 21 (.q 22 (.q 23 (.q 24 (.q 25 .nil)))))))))))))))))))))))))) [] rfl (by kernel_rfl) Sel.nil ?_
   by_cases e2:x.c < p.c
   ·rw [if_pos (fun h=>by have:=hlt3.1 h; omega)] at hE
    have hh:=firstE_hit hI (by rw [hE]; decide) _ hlt
    rw [hh,hE];refine Ad ?_;refine Aco ?_;refine Aek ?_;refine E7 ?_;refine Ad8 ?_;refine Ab9 ?_;refine BW ?_;refine Acz ?_;exact AI (res1 rfl rfl) rsubZ selZ ⟨rfl,rfl⟩
   by_cases e3:x.a ≤ p.a
   ·rw [if_pos (fun h=>by have:=hlt3.1 h; omega)] at hE
    have hh:=firstE_hit hI (by rw [hE]; decide) _ hlt
    rw [hh,hE];refine Ad ?_;refine Aco ?_;refine Aek ?_;refine DE ?_;refine Aa6 ?_;refine AR ?_;refine BG ?_;refine Aca ?_;refine Ad9 ?_;refine GU ?_;refine BN ?_;refine Acz ?_;exact AI (res1 rfl rfl) rsubZ selZ ⟨rfl,rfl⟩
   rw [if_neg (fun h=>h (hlt3.2 (by omega)))] at hE
   refine Ad ?_;refine Aco ?_;refine Aek ?_;refine DE ?_;refine Aa6 ?_;refine AR ?_;refine BG ?_;refine Aca ?_;refine Ad9 ?_;refine D0 ?_;refine BN ?_;refine Aee ?_
   refine A5 (.q 0 (.q 1 (.q 2 (.q 3 (.q 4 (.q 5 (.q 6 (.q 7 (.q 8 (.q 9 (.q 10 (.q 11 .nil)))))))))))) [] rfl (by kernel_rfl) Sel.nil ?_
   by_cases e4:x.a < p.b
   ·rw [if_pos (by omega)] at hE
    have hh:=firstE_hit hI (by rw [hE]; decide) _ hlt
    rw [hh,hE];refine Ad ?_;refine Aca ?_;refine Ad9 ?_;refine E7 ?_;refine Acz ?_;exact AI (res1 rfl rfl) rsubZ selZ ⟨rfl,rfl⟩
   ·rw [if_neg (by omega)] at hE
    refine Ad ?_;refine Aca ?_;refine Ad9 ?_;refine DE ?_;refine Aby ?_;refine Adj ?_
    exact AZ (k + 1) ⟨by omega,firstE_ok hI hE⟩ (by omega) covZ selZ
 have hke:k = l.length:=by omega
 subst hke;rw [hI];refine Ab6 ?_;refine AX ?_;refine Aec ?_;refine Aaj ?_;exact AI (res1 rfl rfl) rsubZ selZ ⟨rfl,rfl⟩
end Go.Proofs.YtphehihohghfoaaGreat
/- Spans in memory. -/
namespace Go.Proofs.YtphehihohghfoaaGreat
open Go.Eng Go.Step
set_option maxRecDepth 100000
set_option maxHeartbeats 4000000

def encS (x:Int × Int):List Value:=[int x.1,int x.2]
theorem encS_len (x:Int × Int):(encS x).length = 2:=rfl
abbrev SpAt (ρ:PH) (v:Value) (l:List (Int × Int)):Prop:=SlE encS 2 ρ v l
theorem spRow {ρ:PH} {p:Option Addr} {l:List (Int × Int)} (h:RowsE encS 2 ρ p l) {i:Nat} {x:Int × Int} (hx:l[i]? = some x) :
  ∃ b o,p = some ⟨b,o,none⟩ ∧ RdN ρ b (o + i * 2) [int x.1,int x.2] ∧ rdc ρ b (o + i * 2) = some (int x.1) ∧ rdc ρ b (o + i * 2 + 1) = some (int x.2):=by
 obtain ⟨b,o,e,hr⟩:=h i x hx
 exact ⟨b,o,e,hr,hr.get0,hr.get (j:=1) rfl⟩
end Go.Proofs.YtphehihohghfoaaGreat
/- Tables: checked; booked times. -/
namespace Go.Proofs.YtphehihohghfoaaGreat
open Go.Eng Go.Step
set_option maxRecDepth 100000
set_option maxHeartbeats 4000000

structure TbAt (ρ τ σ υ:PH) (pq pc pb ph:Option Addr) (kq kc kb kh:Nat) (qs:List Int) (cs:List Ct) (bs:List Bk) (hs:List Hd):Prop where
 hq:IntsAt ρ (.slice pq qs.length kq) qs
 hc:CtAt τ (.slice pc cs.length kc) cs
 hcap:cs.length ≤ kc
 lq:qs.length ≤ 9223372036854775807
 lc:cs.length ≤ 9223372036854775807
 hb:BkAt σ (.slice pb bs.length kb) bs
 lb:bs.length ≤ 9223372036854775807
 hh:HdAt υ (.slice ph hs.length kh) hs
 lh:hs.length ≤ 9223372036854775807
theorem TbAt.rq {ρ τ σ υ:PH} {pq pc pb ph:Option Addr} {kq kc kb kh:Nat} {qs:List Int} {cs:List Ct} {bs:List Bk} {hs:List Hd} (hT:TbAt ρ τ σ υ pq pc pb ph kq kc kb kh qs cs bs hs):RowsE Eng.encI 1 ρ pq qs:=by
 obtain ⟨_,_,e,h⟩:=hT.hq.val Eng.encI_len
 simp only [Value.slice.injEq] at e;rw [e.1]; exact h
theorem TbAt.rc {ρ τ σ υ:PH} {pq pc pb ph:Option Addr} {kq kc kb kh:Nat} {qs:List Int} {cs:List Ct} {bs:List Bk} {hs:List Hd} (hT:TbAt ρ τ σ υ pq pc pb ph kq kc kb kh qs cs bs hs):RowsE encC 7 τ pc cs:=by
 obtain ⟨_,_,e,h⟩:=hT.hc.val encC_len
 simp only [Value.slice.injEq] at e;rw [e.1]; exact h
theorem TbAt.rh {ρ τ σ υ:PH} {pq pc pb ph:Option Addr} {kq kc kb kh:Nat} {qs:List Int} {cs:List Ct} {bs:List Bk} {hs:List Hd} (hT:TbAt ρ τ σ υ pq pc pb ph kq kc kb kh qs cs bs hs):RowsE encH 5 υ ph hs:=by
 obtain ⟨_,_,e,h⟩:=hT.hh.val encH_len
 simp only [Value.slice.injEq] at e;rw [e.1]; exact h
set_option maxHeartbeats 16000000 in
theorem chkTab_spec {ρ τ σ υ:PH} {pq pc pb ph:Option Addr} {kq kc kb kh:Nat} {qs:List Int} {cs:List Ct} {bs:List Bk} {hs:List Hd} (hT:TbAt ρ τ σ υ pq pc pb ph kq kc kb kh qs cs bs hs) :
  Ans Tryz.prog (fv 131) [.agg #[.slice pq qs.length kq,.slice pc cs.length kc,.slice pb bs.length kb,.slice ph hs.length kh]] [ρ,τ,σ,υ] (fun r=>r = int (chkT qs cs bs hs)):=by
 refine spec_in (cap:=[]) Tryz.func131 rfl rfl Tryz.ntmps131 rfl envZ (fun N β=>?_)
 refine Aa ?_;refine BI (BK rfl) rfl rfl rfl ?_;rintro _ _ ⟨b1,rfl,rfl⟩;refine AS (ρ:=sng b1 _) takeZ ?_
 have ct:=rdB b1 29 [.slice pq qs.length kq,.slice pc cs.length kc,.slice pb bs.length kb,.slice ph hs.length kh]
 have ct0:=rdC ct 0
 have ct1:=rdC ct 1
 have ct2:=rdC ct 2
 have ct3:=rdC ct 3
 have ctp:RdP (sng b1 (.cells #[.slice pq qs.length kq,.slice pc cs.length kc,.slice pb bs.length kb,.slice ph hs.length kh] 29 (0,0))) b1 0 [.slice pq qs.length kq,.slice pc cs.length kc]:=rdP_sng (xs:=[.slice pq qs.length kq,.slice pc cs.length kc,.slice pb bs.length kb,.slice ph hs.length kh]) rfl
 refine Abm ?_;refine Ady ?_;refine AT ?_;refine A3 (planCheck_spec ρ τ pq pc kq kc qs cs hT.hq hT.hc hT.hcap hT.lq hT.lc) rfl rfl rdZ rfl rfl ?_;rintro _ rfl;unfold chkT
 by_cases h1:chkPl qs cs = 0
 rotate_left
 ·rw [if_pos h1]
  generalize chkPl qs cs = z at h1
  refine Ab ?_;refine Acm ?_;refine Ab4 ?_;exact AI (res1 rfl rfl) rsubZ selZ ⟨rfl,rfl⟩
 rw [if_neg (fun h=>h h1),h1]
 refine Ab ?_;refine Ad1 ?_;refine Ady ?_;refine AT ?_;refine Aac ?_;refine A3 (bkCheck_spec ρ τ σ pq pc kq kc qs cs _ bs hT.hq hT.hc hT.hcap hT.lq hT.lc hT.hb hT.lb) rfl rfl rdZ rfl rfl ?_;rintro _ rfl
 by_cases h2:chkB qs cs bs = 0
 rotate_left
 ·rw [if_pos h2]
  generalize chkB qs cs bs = z at h2
  refine Ab ?_;refine Acm ?_;refine Ab4 ?_;exact AI (res1 rfl rfl) rsubZ selZ ⟨rfl,rfl⟩
 rw [if_neg (fun h=>h h2),h2]
 refine Ab ?_;refine Abc ?_;refine Ady ?_;refine AT ?_;refine Aac ?_;refine A3 (check28_spec ρ τ υ pq pc kq kc qs cs _ hs hT.hq hT.hc hT.hcap hT.lq hT.lc hT.hh hT.lh) rfl rfl rdZ rfl rfl ?_;rintro _ rfl;refine Aab ?_;exact AI (res1 rfl rfl) rsubZ selZ ⟨rfl,rfl⟩
set_option maxHeartbeats 16000000 in
theorem refChkTab_spec {ρ τ σ υ:PH} {pq pc pb ph:Option Addr} {kq kc kb kh:Nat} {qs:List Int} {cs:List Ct} {bs:List Bk} {hs:List Hd} (hT:TbAt ρ τ σ υ pq pc pb ph kq kc kb kh qs cs bs hs) :
  Ans Tryz.prog (fv 52) [.agg #[.slice pq qs.length kq,.slice pc cs.length kc,.slice pb bs.length kb,.slice ph hs.length kh]] [ρ,τ,σ,υ] (fun r=>r = int (chkT qs cs bs hs)):=by
 refine spec_in (cap:=[]) Tryz.func52 rfl rfl Tryz.ntmps52 rfl envZ (fun N β=>?_)
 refine Aa ?_;refine BI (BK rfl) rfl rfl rfl ?_;rintro _ _ ⟨b1,rfl,rfl⟩;refine AS (ρ:=sng b1 _) takeZ ?_
 have ct:=rdB b1 29 [.slice pq qs.length kq,.slice pc cs.length kc,.slice pb bs.length kb,.slice ph hs.length kh]
 have ct0:=rdC ct 0
 have ct1:=rdC ct 1
 have ct2:=rdC ct 2
 have ct3:=rdC ct 3
 have ctp:RdP (sng b1 (.cells #[.slice pq qs.length kq,.slice pc cs.length kc,.slice pb bs.length kb,.slice ph hs.length kh] 29 (0,0))) b1 0 [.slice pq qs.length kq,.slice pc cs.length kc]:=rdP_sng (xs:=[.slice pq qs.length kq,.slice pc cs.length kc,.slice pb bs.length kb,.slice ph hs.length kh]) rfl
 refine Abm ?_;refine Ady ?_;refine AT ?_;refine A3 (refPlanCheck_spec ρ τ pq pc kq kc qs cs hT.hq hT.hc hT.lq hT.lc) rfl rfl rdZ rfl rfl ?_;rintro _ rfl;unfold chkT
 by_cases h1:chkPl qs cs = 0
 rotate_left
 ·rw [if_pos h1]
  generalize chkPl qs cs = z at h1
  refine Ab ?_;refine Acm ?_;refine Ab4 ?_;exact AI (res1 rfl rfl) rsubZ selZ ⟨rfl,rfl⟩
 rw [if_neg (fun h=>h h1),h1]
 refine Ab ?_;refine Ad1 ?_;refine Ady ?_;refine AT ?_;refine Aac ?_;refine A3 (refBkCheck_spec ρ τ σ pq pc kq kc qs cs _ bs hT.hq hT.hc hT.hcap hT.lq hT.lc hT.hb hT.lb) rfl rfl rdZ rfl rfl ?_;rintro _ rfl
 by_cases h2:chkB qs cs bs = 0
 rotate_left
 ·rw [if_pos h2]
  generalize chkB qs cs bs = z at h2
  refine Ab ?_;refine Acm ?_;refine Ab4 ?_;exact AI (res1 rfl rfl) rsubZ selZ ⟨rfl,rfl⟩
 rw [if_neg (fun h=>h h2),h2]
 refine Ab ?_;refine Abc ?_;refine Ady ?_;refine AT ?_;refine Aac ?_;refine A3 (refCheck28_spec ρ τ υ pq pc kq kc qs cs _ hs hT.hq hT.hc hT.lq hT.lc hT.hh hT.lh) rfl rfl rdZ rfl rfl ?_;rintro _ rfl;refine Aab ?_;exact AI (res1 rfl rfl) rsubZ selZ ⟨rfl,rfl⟩
set_option maxHeartbeats 16000000 in
theorem busy_spec (ρ:PH) (v:Value) (l:List Bk) (c:Int) (hv:BkAt ρ v l) (hl:l.length ≤ 1000) :
  Makes Tryz.prog (fv 166) [v,int c] [ρ] (fun r σ=>OwnS 93 2 r (busyL l c).length ((busyL l c).flatMap encS) σ):=by
 obtain ⟨q,cc,rfl,hr⟩:=hv.val encB_len
 refine spec_in (cap:=[]) Tryz.func166 rfl rfl Tryz.ntmps166 rfl envZ (fun N β=>?_)
 refine BY ?_;refine Ad5 ?_;refine Ab8 ?_
 refine BC [1,8,9] (X:=Nat × (Value × PH)) (0,(.slice none 0 0,emp)) (fun x=>x.1 ≤ l.length ∧ OwnS 93 2 x.2.1 (busyL (l.take x.1) c).length ((busyL (l.take x.1) c).flatMap encS) x.2.2) (fun x=>[(10,int x.1),(5,x.2.1)]) (fun x=>[x.2.2]) (fun x=>l.length - x.1) pickZ ⟨by dsimp only; omega,OwnS.nil _ _⟩ covZ selZ ?_
 rintro ⟨k,u,σ⟩ ⟨hk,hO⟩
 dsimp only at hk hO ⊢
 by_cases hlt:k < l.length
 ·have hx:=List.getElem?_eq_getElem hlt
  have hn:=busyL_next c hx
  have hrl:=busyL_len (l.take k) c
  rw [List.length_take,Nat.min_eq_left hk] at hrl
  obtain ⟨b1,o1,rfl,hRd1,g0,g1,g2,g3⟩:=bkRow hr hx
  generalize l[k] = x at hRd1 g0 g1 g2 g3 hn
  by_cases hc:x.c = c
  rotate_left
  ·rw [if_neg hc,List.append_nil] at hn
   refine Ab7 ?_;refine AW ?_; rintro _ _ ⟨b,rfl,rfl⟩;refine AV ?_; rintro _ _ ⟨rfl,rfl⟩;refine AE ?_;refine Acy ?_;refine B5 ?_;refine Aal ?_;refine Aa4 ?_
   exact AZ (k + 1,(u,σ)) ⟨by dsimp only; omega,by dsimp only; rw [hn]; exact hO⟩ (by dsimp only; omega) covZ selZ
  ·rw [if_pos hc] at hn
   refine Ab7 ?_;refine AW ?_; rintro _ _ ⟨b,rfl,rfl⟩;refine AV ?_; rintro _ _ ⟨rfl,rfl⟩;refine AE ?_;refine Acy ?_;refine CK ?_;refine Add ?_;refine Aa9 ?_;refine BS ?_;refine BH ?_; rintro _ _ ⟨b,rfl,rfl⟩
   refine BI (B6 (by_:=16) (s:=2) (news:=[int x.a,int x.b]) rfl rfl rfl rfl rfl rfl rfl hO takeZ (cells_own memZ) rfl (by (repeat (first | exact (fun v hv=>absurd hv List.not_mem_nil) | (refine List.forall_mem_cons.2 ⟨?_,?_⟩; (focus (first | exact rfl | assumption))))); first | done | fail) (by omega) (by simp only [maxLen]; omega) (by omega)) rfl rfl rfl ?_
   rintro u1 _ ⟨σ1,hO1,rfl⟩;refine Aab ?_;refine Aa4 ?_
   refine AZ (k + 1,(u1,σ1)) ⟨by dsimp only; omega,?_⟩ (by dsimp only; omega) covZ selZ
   dsimp only
   rw [hn,List.length_append,List.flatMap_append];exact hO1
 ·have hke:k = l.length:=by omega
  subst hke;rw [List.take_length] at hO;refine Abt ?_;refine Ab4 ?_;exact AI (res1 rfl rfl) rsubZ selZ ⟨σ,hO,rfl⟩
end Go.Proofs.YtphehihohghfoaaGreat
/- Demands, shipments, stocks. No program in sight. No conditions. -/
namespace Go.Step
structure Dm where
  s:Int
  d:Int
  v:Int
  r:Int
  e:Int
deriving DecidableEq
structure Sh where
  c:Int
  t:Int
  n:Int
deriving DecidableEq
def okDm (nq:Nat) (d:Dm):Prop:=(0 ≤ d.s ∧ d.s < nq) ∧ (0 ≤ d.d ∧ d.d < nq) ∧ d.s ≠ d.d ∧ (1 ≤ d.v ∧ d.v ≤ 1099511627776) ∧ (0 ≤ d.r ∧ d.r < d.e ∧ d.e ≤ 1099511627776 ∧ d.e - d.r ≤ 100)
instance (nq:Nat) (d:Dm):Decidable (okDm nq d):=inferInstanceAs (Decidable (_ ∧ _))
def validT (qs:List Int) (cs:List Ct) (bs:List Bk) (hs:List Hd) (d:Dm):Bool:=decide (chkT qs cs bs hs = 0 ∧ okDm qs.length d)
def roomT (qs:List Int) (hs:List Hd) (d:Dm) (n t:Int):Int:=if n = d.s ∨ n = d.d then 1099511627776 else qs.getD n.toNat 0 - stored hs n t
end Go.Step
/- The table of stocks, change by change. No program in sight. No conditions. -/
namespace Go.Step
end Go.Step
/- Sets of integers as spans. No program in sight. No conditions. -/
namespace Go.Step
def okSp (x:Int × Int):Prop:=x.1 < x.2 ∧ -1152921504606846976 ≤ x.1 ∧ x.2 ≤ 1152921504606846976
instance (x:Int × Int):Decidable (okSp x):=inferInstanceAs (Decidable (_ ∧ _))
def spE (l:List (Int × Int)) (i:Nat):Int:=match l[i]? with
  | some x=>if ¬ okSp x then 2 else if 0 < i ∧ x.1 ≤ (l.getD (i - 1) x).2 then 9 else 0
  | none=>0
theorem spE_at {l:List (Int × Int)} {i:Nat} {x:Int × Int} (e:l[i]? = some x):spE l i = if ¬ okSp x then 2 else if 0 < i ∧ x.1 ≤ (l.getD (i - 1) x).2 then 9 else 0:=by unfold spE; rw [e]
def chkI (l:List (Int × Int)):Int:=if 1000 < l.length then 4 else firstE (spE l) l.length
def inSp (t:Int) (x:Int × Int):Bool:=decide (x.1 ≤ t) && decide (t < x.2)
end Go.Step
/- Sets of integers: checked, asked. -/
namespace Go.Proofs.YtphehihohghfoaaGreat
open Go.Eng Go.Step
set_option maxRecDepth 100000
set_option maxHeartbeats 4000000

theorem ivValid_spec (x:Int × Int):Ans Tryz.prog (fv 148) [.agg #[int x.1,int x.2]] [] (fun r=>r = .bool (decide (okSp x))):=by
 refine spec_in (cap:=[]) Tryz.func148 rfl rfl Tryz.ntmps148 rfl envZ (fun N β=>?_)
 by_cases h1:x.1 < x.2
 ·by_cases h2:-1152921504606846976 ≤ x.1
  ·by_cases h3:x.2 ≤ 1152921504606846976
   ·rw [decide_eq_true (show okSp x from ⟨h1,h2,h3⟩)]
    refine Aa ?_;refine B7 ?_; rintro _ _ ⟨b,rfl,rfl⟩;refine Abv ?_;refine Aac ?_;refine A9 ?_;refine Aae ?_;refine CC ?_;refine Acs ?_;refine CL ?_;refine Ab2 ?_;exact AI (res1 rfl rfl) rsubZ selZ ⟨rfl,rfl⟩
   ·rw [decide_eq_false (fun h:okSp x=>h3 h.2.2)]
    refine Aa ?_;refine B7 ?_; rintro _ _ ⟨b,rfl,rfl⟩;refine Abv ?_;refine Aac ?_;refine A9 ?_;refine Aae ?_;refine CC ?_;refine Acs ?_;refine CJ ?_;refine Ab2 ?_;exact AI (res1 rfl rfl) rsubZ selZ ⟨rfl,rfl⟩
  ·rw [decide_eq_false (fun h:okSp x=>h2 h.2.1)]
   refine Aa ?_;refine B7 ?_; rintro _ _ ⟨b,rfl,rfl⟩;refine Abv ?_;refine Aac ?_;refine A9 ?_;refine Aae ?_;refine BJ ?_;refine AL ?_;refine Aa8 ?_;refine Abx ?_;exact AI (res1 rfl rfl) rsubZ selZ ⟨rfl,rfl⟩
 ·rw [decide_eq_false (fun h:okSp x=>h1 h.1)]
  refine Aa ?_;refine B7 ?_; rintro _ _ ⟨b,rfl,rfl⟩;refine Abv ?_;refine Aac ?_;refine AY ?_;refine Adq ?_;refine Aa8 ?_;refine Abx ?_;exact AI (res1 rfl rfl) rsubZ selZ ⟨rfl,rfl⟩
set_option maxHeartbeats 16000000 in
theorem ivCheck_spec (ρ:PH) (v:Value) (l:List (Int × Int)) (hv:SpAt ρ v l) (hl:l.length ≤ 9223372036854775807) :
  Ans Tryz.prog (fv 132) [v] [ρ] (fun r=>r = int (chkI l)):=by
 obtain ⟨q,c,rfl,hr⟩:=hv.val encS_len
 refine spec_in (cap:=[]) Tryz.func132 rfl rfl Tryz.ntmps132 rfl envZ (fun N β=>?_)
 unfold chkI
 by_cases hbig:1000 < l.length
 ·rw [if_pos hbig]
  refine Aaj ?_;refine Acr ?_;refine CI ?_;refine Aaz ?_;exact AI (res1 rfl rfl) rsubZ selZ ⟨rfl,rfl⟩
 rw [if_neg hbig];refine Aaj ?_;refine Acr ?_;refine Aed ?_;refine Ab8 ?_
 refine BC [0,8,9] (0:Nat) (fun k=>k ≤ l.length ∧ firstE (spE l) k = 0) (fun k=>[(10,int k)]) (fun _=>[]) (fun k=>l.length - k) pickZ ⟨by omega,rfl⟩ covZ selZ ?_
 rintro k ⟨hk,hI⟩
 by_cases hlt:k < l.length
 ·have hx:=List.getElem?_eq_getElem hlt
  obtain ⟨b4,o4,rfl,hrd,g0,g1⟩:=spRow hr hx
  have hE:=spE_at hx
  generalize l[k] = x at hrd g0 g1 hE
  refine Adi ?_;refine AW ?_; rintro _ _ ⟨b,rfl,rfl⟩;refine AD ?_;refine AV ?_; rintro _ _ ⟨rfl,rfl⟩;refine Aak ?_;refine Abo ?_
  revert b; intro b6
  refine A3 (ivValid_spec x) rfl rfl rdZ rfl rfl ?_;rintro _ rfl
  by_cases hok:okSp x
  rotate_left
  ·rw [if_pos hok] at hE
   have hh:=firstE_hit hI (by rw [hE]; decide) _ hlt
   rw [hh,hE,decide_eq_false hok];refine BD ?_;refine Aaz ?_;exact AI (res1 rfl rfl) rsubZ selZ ⟨rfl,rfl⟩
  rw [if_neg (fun h=>h hok)] at hE
  rw [decide_eq_true hok];refine Acc ?_;refine AC ?_
  refine A5 (.q 0 (.q 1 (.q 2 (.q 3 (.q 4 (.q 5 (.q 6 (.q 7 (.q 8 (.q 9 (.q 10 (.q 11 (.q 12 .nil))))))))))))) [sng b6 _] rfl (by kernel_rfl) selZ ?_
  by_cases h0:k = 0
  ·subst h0
   rw [if_neg (by omega)] at hE
   refine AR ?_;refine C3 ?_;refine Ad8 ?_;refine A0 rfl rfl rfl rfl rfl ?_;refine BN ?_;refine Aei ?_
   exact AZ (0 + 1) ⟨by omega,firstE_ok hI hE⟩ (by omega) covZ selZ
  ·have hx':=List.getElem?_eq_getElem (show k - 1 < l.length by omega)
   obtain ⟨_,_,e,_,p0,p1⟩:=spRow hr hx'
   simp only [Option.some.injEq,Addr.mk.injEq,and_true] at e
   obtain ⟨rfl,rfl⟩:=e
   rw [List.getD_eq_getElem?_getD,hx',Option.getD_some] at hE
   generalize l[k - 1] = p at p0 p1 hE
   by_cases h9:x.1 ≤ p.2
   ·rw [if_pos ⟨by omega,h9⟩] at hE
    have hh:=firstE_hit hI (by rw [hE]; decide) _ hlt
    rw [hh,hE];refine AR ?_;refine DY ?_;refine Acn ?_;refine Ad9 ?_;refine GU ?_;refine BW ?_;refine Acz ?_;exact AI (res1 rfl rfl) rsubZ selZ ⟨rfl,rfl⟩
   ·rw [if_neg (fun h=>h9 h.2)] at hE
    refine AR ?_;refine DY ?_;refine Acn ?_;refine Ad9 ?_;refine D0 ?_;refine BW ?_;refine Aei ?_
    exact AZ (k + 1) ⟨by omega,firstE_ok hI hE⟩ (by omega) covZ selZ
 have hke:k = l.length:=by omega
 subst hke;rw [hI];refine Abt ?_;refine Aaj ?_;exact AI (res1 rfl rfl) rsubZ selZ ⟨rfl,rfl⟩
end Go.Proofs.YtphehihohghfoaaGreat
/- Demands: checked. -/
namespace Go.Proofs.YtphehihohghfoaaGreat
open Go.Eng Go.Step
set_option maxRecDepth 100000
set_option maxHeartbeats 4000000

theorem chkPl_ct {qs:List Int} {cs:List Ct} (h:chkPl qs cs = 0):cs.length ≤ 64 ∧ ∀ c ∈ cs,chkCt c = 0 ∧ c.f < qs.length ∧ c.t < qs.length:=by
 unfold chkPl at h
 by_cases h1:qs.length < 1 ∨ 16 < qs.length ∨ 64 < cs.length
 ·rw [if_pos h1] at h; omega
 rw [if_neg h1] at h
 by_cases h2:firstE (quoE qs) qs.length = 0
 ·rw [if_neg (by simpa using h2)] at h
  refine ⟨by omega,fun c hc=>?_⟩
  obtain ⟨i,hi,rfl⟩:=List.getElem_of_mem hc
  have h3:=firstE_zero h i hi
  rw [ctE_at (List.getElem?_eq_getElem hi)] at h3
  by_cases h4:chkCt cs[i] = 0
  ·rw [if_neg (by simpa using h4)] at h3
   by_cases h5:(qs.length:Int) ≤ cs[i].f ∨ (qs.length:Int) ≤ cs[i].t
   ·rw [if_pos h5] at h3; omega
   ·exact ⟨h4,by omega,by omega⟩
  ·rw [if_pos h4] at h3; exact absurd h3 h4
 ·rw [if_pos h2] at h; exact absurd h h2
theorem chkCt_all {c:Ct} (h:chkCt c = 0):(0 ≤ c.f ∧ c.f ≤ 15) ∧ (0 ≤ c.t ∧ c.t ≤ 15) ∧ (0 ≤ c.s ∧ c.s < c.e ∧ c.e ≤ 1099511627776) ∧ (1 ≤ c.r ∧ c.r ≤ 1000) ∧ (1 ≤ c.g ∧ c.g ≤ 1048576):=by
 have h2:=chkCt_se h
 unfold chkCt at h
 by_cases h1:okCt c
 ·unfold okCt at h1
  exact ⟨h1.1,h1.2.1,h2,h1.2.2.1,h1.2.2.2.1⟩
 ·rw [if_pos h1] at h; omega
end Go.Proofs.YtphehihohghfoaaGreat
/- Rooms, arrivals, shipments. -/
namespace Go.Proofs.YtphehihohghfoaaGreat
open Go.Eng Go.Step
set_option maxRecDepth 100000
set_option maxHeartbeats 4000000

def encX (x:Sh):List Value:=[int x.c,int x.t,int x.n]
theorem encX_len (x:Sh):(encX x).length = 3:=rfl
abbrev ShAt (ρ:PH) (v:Value) (l:List Sh):Prop:=SlE encX 3 ρ v l
theorem shRow {ρ:PH} {p:Option Addr} {l:List Sh} (h:RowsE encX 3 ρ p l) {i:Nat} {x:Sh} (hx:l[i]? = some x) :
  ∃ b o,p = some ⟨b,o,none⟩ ∧ RdN ρ b (o + i * 3) [int x.c,int x.t,int x.n] ∧ rdc ρ b (o + i * 3) = some (int x.c) ∧ rdc ρ b (o + i * 3 + 1) = some (int x.t) ∧ rdc ρ b (o + i * 3 + 2) = some (int x.n):=by
 obtain ⟨b,o,e,hr⟩:=h i x hx
 exact ⟨b,o,e,hr,hr.get0,hr.get (j:=1) rfl,hr.get (j:=2) rfl⟩
end Go.Proofs.YtphehihohghfoaaGreat
/- Cuts and their capacities. No program in sight. No conditions. -/
namespace Go.Step
abbrev Cu:=List (List (Int × Int))
def cuAt (c:Cu) (n:Int):List (Int × Int):=c.getD n.toNat []
def sumT (f:Int → Int) (a:Int):Nat → Int
  | 0=>0
  | m + 1=>sumT f a m + f (a + m)
theorem sumT_congr {f g:Int → Int} {a:Int}:∀ {m:Nat},(∀ k:Nat,k < m → f (a + k) = g (a + k)) → sumT f a m = sumT g a m
  | 0,_=>rfl
  | m + 1,h=>by rw [sumT,sumT,sumT_congr (m:=m) (fun k hk=>h k (Nat.lt_succ_of_lt hk)),h m (Nat.lt_succ_self m)]
theorem sumT_bd {f:Int → Int} {B:Int} (h:∀ t,-B ≤ f t ∧ f t ≤ B) (a:Int):∀ m:Nat,-(B * m) ≤ sumT f a m ∧ sumT f a m ≤ B * m
  | 0=>by simp [sumT]
  | m + 1=>by
    have ih:=sumT_bd h a m
    have:=h (a + m)
    have e:B * ((m + 1:Nat):Int) = B * (m:Int) + B:=by rw [Int.natCast_succ,Int.mul_add,Int.mul_one]
    show -(B * ((m + 1:Nat):Int)) ≤ sumT f a m + f (a + m) ∧ sumT f a m + f (a + m) ≤ B * ((m + 1:Nat):Int)
    rw [e];omega
def sumU (f:Int → Int) (a t:Int):Int:=sumT f a (t - a).toNat
theorem sumU_bd {f:Int → Int} {B a t:Int} (hB:0 ≤ B) (h:∀ t,-B ≤ f t ∧ f t ≤ B) (h1:t - a ≤ 100):-(B * 100) ≤ sumU f a t ∧ sumU f a t ≤ B * 100:=by
  have:=sumT_bd h a (t - a).toNat
  have h2:B * ((t - a).toNat:Int) ≤ B * 100:=Int.mul_le_mul_of_nonneg_left (by omega) hB
  unfold sumU;omega
end Go.Step
/- What crosses a cut. -/
namespace Go.Proofs.YtphehihohghfoaaGreat
open Go.Eng Go.Step
set_option maxRecDepth 100000
set_option maxHeartbeats 4000000

def CutRow (ρ κ:PH) (p:Option Addr) (c:Cu):Prop:=∀ (i:Nat) (l:List (Int × Int)),c[i]? = some l → ∃ b o q k,p = some ⟨b,o,none⟩ ∧ rdc ρ b (o + i) = some (.slice q l.length k) ∧ SpAt κ (.slice q l.length k) l ∧ l.length ≤ 9223372036854775807
end Go.Proofs.YtphehihohghfoaaGreat
/- Arguments that are slices: their room. No conditions. -/
namespace Go.Eng
open Go.ChangeShapes Go.WideShapes Go.RowKit
variable {P:Program} {W:World} {t:TypeId}
theorem RdT.capOK {e:TypeId} {v:Value} (ht:P.underlying t = some (.slice e)) (h:RdT P W t [v]):CapOK v:=by
  obtain ⟨H,enc,fuel,x,h⟩:=h
  rcases Deep.open_slice ht h with ⟨e,_⟩ | ⟨a,len,cap,m,n,D,Pl,e,_,hlc,_⟩
  · simp only [List.cons.injEq,and_true] at e
    exact ⟨_,_,_,e,Nat.le_refl _⟩
  · simp only [List.cons.injEq,and_true] at e
    exact ⟨_,_,_,e,hlc⟩
end Go.Eng
/- The rows: each law, for every input. -/
namespace Go.Proofs.YtphehihohghfoaaGreat
open Go.Eng Go.Step
set_option maxRecDepth 100000
set_option maxHeartbeats 4000000
open Go.ChangeShapes Go.WideShapes Go.ChangeAt Go.RowKit

theorem Tryz.own:ownKnob Tryz.prog.godebug = none:=by kernel_rfl
theorem Tryz.laidOut:laidOutB Tryz.prog = true:=by kernel_rfl
theorem wf_u8 {n:Int} (h:(Lit.int .u8 n).wf = true):0 ≤ n ∧ n ≤ 255:=by
 simp only [Lit.wf,Bool.and_eq_true,decide_eq_true_eq] at h;exact ⟨h.1,h.2⟩
theorem ct_of {W:World} {x:List Value} (h:RdT Tryz.prog W 57 x):∃ a:Ct,x = encC a ∧ True:=by
 obtain ⟨h1,_⟩:=h.struct Tryz.underlying57
 have hc:Tryz.prog.cellsOf 57 = 7:=by kernel_rfl
 rw [hc] at h1
 match x,h1 with
 | [c0,c1,c2,c3,c4,c5,c6],_ =>
  have k:Tryz.prog.cellsOf 3 = 1:=by kernel_rfl
  obtain ⟨x0,e0,_⟩:=(h.fld1 Tryz.underlying57 0 rfl rfl rfl k rfl).i64 Tryz.underlying3
  obtain ⟨x1,e1,_⟩:=(h.fld1 Tryz.underlying57 1 rfl rfl rfl k rfl).i64 Tryz.underlying3
  obtain ⟨x2,e2,_⟩:=(h.fld1 Tryz.underlying57 2 rfl rfl rfl k rfl).i64 Tryz.underlying3
  obtain ⟨x3,e3,_⟩:=(h.fld1 Tryz.underlying57 3 rfl rfl rfl k rfl).i64 Tryz.underlying3
  obtain ⟨x4,e4,_⟩:=(h.fld1 Tryz.underlying57 4 rfl rfl rfl k rfl).i64 Tryz.underlying3
  obtain ⟨x5,e5,_⟩:=(h.fld1 Tryz.underlying57 5 rfl rfl rfl k rfl).i64 Tryz.underlying3
  obtain ⟨x6,e6,_⟩:=(h.fld1 Tryz.underlying57 6 rfl rfl rfl k rfl).i64 Tryz.underlying3
  simp at e0 e1 e2 e3 e4 e5 e6
  subst e0 e1 e2 e3 e4 e5 e6;exact ⟨⟨x0,x1,x2,x3,x4,x5,x6⟩,rfl,trivial⟩
theorem bk_of {W:World} {x:List Value} (h:RdT Tryz.prog W 100 x):∃ a:Bk,x = encB a ∧ True:=by
 obtain ⟨h1,_⟩:=h.struct Tryz.underlying100
 have hc:Tryz.prog.cellsOf 100 = 4:=by kernel_rfl
 rw [hc] at h1
 match x,h1 with
 | [c0,c1,c2,c3],_ =>
  have k:Tryz.prog.cellsOf 3 = 1:=by kernel_rfl
  obtain ⟨x0,e0,_⟩:=(h.fld1 Tryz.underlying100 0 rfl rfl rfl k rfl).i64 Tryz.underlying3
  obtain ⟨x1,e1,_⟩:=(h.fld1 Tryz.underlying100 1 rfl rfl rfl k rfl).i64 Tryz.underlying3
  obtain ⟨x2,e2,_⟩:=(h.fld1 Tryz.underlying100 2 rfl rfl rfl k rfl).i64 Tryz.underlying3
  obtain ⟨x3,e3,_⟩:=(h.fld1 Tryz.underlying100 3 rfl rfl rfl k rfl).i64 Tryz.underlying3
  simp at e0 e1 e2 e3
  subst e0 e1 e2 e3;exact ⟨⟨x0,x1,x2,x3⟩,rfl,trivial⟩
theorem hd_of {W:World} {x:List Value} (h:RdT Tryz.prog W 104 x):∃ a:Hd,x = encH a ∧ True:=by
 obtain ⟨h1,_⟩:=h.struct Tryz.underlying104
 have hc:Tryz.prog.cellsOf 104 = 5:=by kernel_rfl
 rw [hc] at h1
 match x,h1 with
 | [c0,c1,c2,c3,c4],_ =>
  have k:Tryz.prog.cellsOf 3 = 1:=by kernel_rfl
  obtain ⟨x0,e0,_⟩:=(h.fld1 Tryz.underlying104 0 rfl rfl rfl k rfl).i64 Tryz.underlying3
  obtain ⟨x1,e1,_⟩:=(h.fld1 Tryz.underlying104 1 rfl rfl rfl k rfl).i64 Tryz.underlying3
  obtain ⟨x2,e2,_⟩:=(h.fld1 Tryz.underlying104 2 rfl rfl rfl k rfl).i64 Tryz.underlying3
  obtain ⟨x3,e3,_⟩:=(h.fld1 Tryz.underlying104 3 rfl rfl rfl k rfl).i64 Tryz.underlying3
  obtain ⟨x4,e4,_⟩:=(h.fld1 Tryz.underlying104 4 rfl rfl rfl k rfl).i64 Tryz.underlying3
  simp at e0 e1 e2 e3 e4
  subst e0 e1 e2 e3 e4;exact ⟨⟨x0,x1,x2,x3,x4⟩,rfl,trivial⟩
theorem demand_of {W:World} {r:Reach} {base:Nat} {v0:Value} (hv:Value.okWide Tryz.prog W r base 31 v0) (h:RdT Tryz.prog W 31 v0.cells.toList):∃ a:Dm,v0 = .agg [int a.s,int a.d,int a.v,int a.r,int a.e].toArray ∧ In64 a.s ∧ In64 a.d ∧ In64 a.v ∧ In64 a.r ∧ In64 a.e:=by
 obtain ⟨cs,rfl⟩:=okWide_agg Tryz.underlying31 hv
 obtain ⟨h1,_⟩:=h.struct Tryz.underlying31
 have hc:Tryz.prog.cellsOf 31 = 5:=by kernel_rfl
 rw [hc] at h1
 obtain ⟨x⟩:=cs
 match x,h1 with
 | [c0,c1,c2,c3,c4],_ =>
  have k:Tryz.prog.cellsOf 3 = 1:=by kernel_rfl
  obtain ⟨x0,e0,i0⟩:=(h.fld1 Tryz.underlying31 0 rfl rfl rfl k rfl).i64 Tryz.underlying3
  obtain ⟨x1,e1,i1⟩:=(h.fld1 Tryz.underlying31 1 rfl rfl rfl k rfl).i64 Tryz.underlying3
  obtain ⟨x2,e2,i2⟩:=(h.fld1 Tryz.underlying31 2 rfl rfl rfl k rfl).i64 Tryz.underlying3
  obtain ⟨x3,e3,i3⟩:=(h.fld1 Tryz.underlying31 3 rfl rfl rfl k rfl).i64 Tryz.underlying3
  obtain ⟨x4,e4,i4⟩:=(h.fld1 Tryz.underlying31 4 rfl rfl rfl k rfl).i64 Tryz.underlying3
  simp at e0 e1 e2 e3 e4
  subst e0 e1 e2 e3 e4;exact ⟨⟨x0,x1,x2,x3,x4⟩,rfl,i0,i1,i2,i3,i4⟩
theorem int_of {W:World} {x:List Value} (h:RdT Tryz.prog W 3 x):∃ a:Int,x = Eng.encI a ∧ True:=by
 obtain ⟨a,e,_⟩:=h.i64 Tryz.underlying3
 exact ⟨a,e,trivial⟩
theorem tables_of {W:World} {r:Reach} {base:Nat} {v0:Value} (hv:Value.okWide Tryz.prog W r base 29 v0) (h:RdT Tryz.prog W 29 v0.cells.toList) :
  ∃ (pq pc pb ph:Option Addr) (kq kc kb kh:Nat) (qs:List Int) (cs:List Ct) (bs:List Bk) (hs:List Hd),v0 = .agg #[.slice pq qs.length kq,.slice pc cs.length kc,.slice pb bs.length kb,.slice ph hs.length kh] ∧ TbAt (heapPH W) (heapPH W) (heapPH W) (heapPH W) pq pc pb ph kq kc kb kh qs cs bs hs:=by
 obtain ⟨cs,rfl⟩:=okWide_agg Tryz.underlying29 hv
 obtain ⟨h1,hf⟩:=h.struct Tryz.underlying29
 have hc:Tryz.prog.cellsOf 29 = 4:=by kernel_rfl
 rw [hc] at h1
 obtain ⟨x⟩:=cs
 match x,h1 with
 | [c0,c1,c2,c3],_ =>
  have k0:Tryz.prog.cellsOf 22 = 1:=by kernel_rfl
  have k1:Tryz.prog.cellsOf 23 = 1:=by kernel_rfl
  have k2:Tryz.prog.cellsOf 26 = 1:=by kernel_rfl
  have k3:Tryz.prog.cellsOf 27 = 1:=by kernel_rfl
  have kp:Tryz.prog.cellsOf 25 = 2:=by kernel_rfl
  have hp:RdT Tryz.prog W 25 [c0,c1]:=by
   have:RdT Tryz.prog W 25 ((([c0,c1,c2,c3]:List Value).drop 0).take (Tryz.prog.cellsOf 25)):=hf 0 _ rfl
   rw [show (Tryz.prog.cellsOf 25) = 2 from kp] at this
   exact this
  have f0:=hp.fld1 Tryz.underlying25 0 rfl rfl rfl k0 rfl
  have f1:=hp.fld1 Tryz.underlying25 1 rfl rfl rfl k1 rfl
  have f2:=h.fld1 Tryz.underlying29 1 rfl rfl rfl k2 rfl
  have f3:=h.fld1 Tryz.underlying29 2 rfl rfl rfl k3 rfl
  obtain ⟨v,e,qs,a1,a2,a3⟩:=f0.sliceE Tryz.underlying22 (s:=1) (by kernel_rfl) (by omega) (fun x hx=>int_of hx)
  simp only [List.cons.injEq,and_true] at e
  obtain ⟨u,e',ct,b1,b2,b3⟩:=f1.sliceE Tryz.underlying23 (s:=7) (by kernel_rfl) (by omega) (fun x hx=>ct_of hx)
  simp only [List.cons.injEq,and_true] at e'
  obtain ⟨u2,e2,bk,d1,d2,d3⟩:=f2.sliceE Tryz.underlying26 (s:=4) (by kernel_rfl) (by omega) (fun x hx=>bk_of hx)
  simp only [List.cons.injEq,and_true] at e2
  obtain ⟨u3,e3,hd,g1,g2,g3⟩:=f3.sliceE Tryz.underlying27 (s:=5) (by kernel_rfl) (by omega) (fun x hx=>hd_of hx)
  simp only [List.cons.injEq,and_true] at e3
  have cap2:=f1.capOK Tryz.underlying23
  subst e e' e2 e3
  obtain ⟨pq,kq,rfl,_⟩:=a1.val Eng.encI_len
  obtain ⟨pc,kc,rfl,_⟩:=b1.val encC_len
  obtain ⟨pb,kb,rfl,_⟩:=d1.val encB_len
  obtain ⟨ph,kh,rfl,_⟩:=g1.val encH_len
  simp only [maxLen] at a3 b3 d3 g3
  exact ⟨pq,pc,pb,ph,kq,kc,kb,kh,qs,ct,bk,hd,rfl,a1,b1,cap2.le,by omega,by omega,d1,by omega,g1,by omega⟩
end Go.Proofs.YtphehihohghfoaaGreat
/- Shipments and stocks, of the reference. -/
namespace Go.Proofs.YtphehihohghfoaaGreat
open Go.Eng Go.Step
set_option maxRecDepth 100000
set_option maxHeartbeats 4000000

end Go.Proofs.YtphehihohghfoaaGreat
/- Stocks, of the reference. -/
namespace Go.Proofs.YtphehihohghfoaaGreat
open Go.Eng Go.Step
set_option maxRecDepth 100000
set_option maxHeartbeats 4000000

end Go.Proofs.YtphehihohghfoaaGreat
/- Flow, of the reference. -/
namespace Go.Proofs.YtphehihohghfoaaGreat
open Go.Eng Go.Step
set_option maxRecDepth 100000
set_option maxHeartbeats 4000000

theorem valid_ok {qs:List Int} {cs:List Ct} {bs:List Bk} {hs:List Hd} {d:Dm} (h:validT qs cs bs hs d = true):(∀ c ∈ cs,chkCt c = 0 ∧ c.f < qs.length ∧ c.t < qs.length) ∧ bs.length ≤ 512 ∧ (∀ x ∈ hs,okHd qs.length x) ∧ hs.length ≤ 512 ∧ (1 ≤ qs.length ∧ qs.length ≤ 16) ∧ (∀ (j:Nat) (q:Int),qs[j]? = some q → 0 ≤ q ∧ q ≤ 1073741824) ∧ okDm qs.length d ∧ cs.length ≤ 64:=by
 obtain ⟨h1,h2⟩:=of_decide_eq_true h
 obtain ⟨p,b,hh⟩:=chkT_ok h1
 obtain ⟨k1,k2⟩:=chkPl_ct p
 obtain ⟨k3,k4⟩:=chkPl_quo p
 have k5:=chkB_ok b
 have k6:(∀ x ∈ hs,okHd qs.length x) ∧ hs.length ≤ 512:=by
  unfold chkH at hh
  rw [if_neg (by simpa using p)] at hh
  by_cases c1:512 < hs.length
  ·rw [if_pos c1] at hh; omega
  rw [if_neg c1] at hh
  by_cases c2:firstE (hdE qs.length hs) hs.length = 0
  ·have:=hdE_ok c2
   rw [List.take_length] at this
   exact ⟨this,by omega⟩
  ·rw [if_pos c2] at hh; exact absurd hh c2
 exact ⟨k2,k5.1,k6.1,k6.2,k3,k4,h2,k1⟩
end Go.Proofs.YtphehihohghfoaaGreat
/- A set of integers lies between its first and its last. No program in sight. No conditions. -/
namespace Go.Step
theorem chkI_at {l:List (Int × Int)} (h:chkI l = 0) {i:Nat} (hi:i < l.length):l[i].1 < l[i].2 ∧ (∀ h0:0 < i,l[i - 1].2 < l[i].1):=by
  unfold chkI at h
  split at h
  · simp at h
  have h2:=firstE_zero h i hi
  rw [spE_at (List.getElem?_eq_getElem hi)] at h2
  split at h2
  · simp at h2
  rename_i h3
  split at h2
  · simp at h2
  rename_i h4
  have h5:okSp l[i]:=Decidable.not_not.1 h3
  refine ⟨h5.1,fun h0=>?_⟩
  rw [List.getD_eq_getElem?_getD,List.getElem?_eq_getElem (by omega),Option.getD_some] at h4
  omega
theorem chkI_hi {l:List (Int × Int)} (h:chkI l = 0):∀ (k:Nat) {i:Nat} (hi:i + k < l.length),l[i].2 ≤ l[i + k].2
  | 0,i,hi=>Int.le_refl _
  | k + 1,i,hi=>by
    have h1:=chkI_hi h k (i:=i) (by omega)
    have h2:=(chkI_at h (i:=i + (k + 1)) hi).1
    have h3:=(chkI_at h hi).2 (by omega)
    have e:i + (k + 1) - 1 = i + k:=by omega
    simp only [e] at h3;omega
end Go.Step
/- Union and intersection of sets of integers. No program in sight. No conditions. -/
namespace Go.Step
abbrev Iv:=List (Int × Int)
def NormI (l:Iv):Prop:=(∀ x ∈ l,x.1 < x.2) ∧ l.Pairwise (fun x y=>x.2 < y.1)
def memI (l:Iv) (t:Int):Bool:=l.any (inSp t)
theorem inSp_iff {t:Int} {x:Int × Int}:inSp t x = true ↔ x.1 ≤ t ∧ t < x.2:=by simp [inSp]
theorem memI_iff {l:Iv} {t:Int}:memI l t = true ↔ ∃ x ∈ l,x.1 ≤ t ∧ t < x.2:=by simp [memI,inSp]
theorem memI_cons (x:Int × Int) (l:Iv) (t:Int):memI (x :: l) t = (inSp t x || memI l t):=rfl
theorem NormI.nil:NormI []:=⟨by simp,.nil⟩
theorem NormI.tail {x:Int × Int} {l:Iv} (h:NormI (x :: l)):NormI l:=⟨fun y hy=>h.1 y (by simp [hy]),(List.pairwise_cons.1 h.2).2⟩
theorem NormI.hd {x:Int × Int} {l:Iv} (h:NormI (x :: l)):x.1 < x.2 ∧ ∀ y ∈ l,x.2 < y.1:=⟨h.1 x (by simp),(List.pairwise_cons.1 h.2).1⟩
theorem NormI.cons {x:Int × Int} {l:Iv} (h:NormI l) (h1:x.1 < x.2) (h2:∀ y ∈ l,x.2 < y.1):NormI (x :: l):=
  ⟨fun y hy=>by
    rcases List.mem_cons.1 hy with rfl | hy
    · exact h1
    · exact h.1 y hy,List.pairwise_cons.2 ⟨h2,h.2⟩⟩
theorem memI_lo {x:Int × Int} {l:Iv} {t:Int} (h:NormI (x :: l)) (hm:memI (x :: l) t = true):x.1 ≤ t:=by
  obtain ⟨y,hy,h1,h2⟩:=memI_iff.1 hm
  rcases List.mem_cons.1 hy with rfl | hy
  · exact h1
  · have a:=h.hd.1
    have b:=h.hd.2 y hy
    omega
theorem memI_lo2 {x:Int × Int} {l:Iv} {t:Int} (h:NormI (x :: l)) (hm:memI l t = true):x.2 < t:=by
  obtain ⟨y,hy,h1,h2⟩:=memI_iff.1 hm
  have b:=h.hd.2 y hy
  omega
theorem memI_first {x:Int × Int} {l:Iv} (h:x.1 < x.2):memI (x :: l) x.1 = true:=memI_iff.2 ⟨x,by simp,by omega,h⟩
theorem normI_ext:∀ {a b:Iv},NormI a → NormI b → (∀ t,memI a t = memI b t) → a = b
  | [],[],_,_,_=>rfl
  | [],y :: b,_,hb,h=>by
    have:=h y.1
    rw [memI_first hb.hd.1] at this
    exact absurd this (by simp [memI])
  | x :: a,[],ha,_,h=>by
    have:=h x.1
    rw [memI_first ha.hd.1] at this
    exact absurd this (by simp [memI])
  | x :: a,y :: b,ha,hb,h=>by
    have e1:x.1 = y.1:=by
      have h1:=memI_lo hb (t:=x.1) (by rw [← h]; exact memI_first ha.hd.1)
      have h2:=memI_lo ha (t:=y.1) (by rw [h]; exact memI_first hb.hd.1)
      omega
    have hx:=ha.hd.1
    have hy:=hb.hd.1
    have e2:x.2 = y.2:=by
      apply Int.le_antisymm
      · apply Int.not_lt.1
        intro hlt
        have h1:=h y.2
        rw [memI_cons,memI_cons,(inSp_iff (t:=y.2) (x:=x)).2 ⟨by omega,hlt⟩,Bool.true_or] at h1
        rcases (Bool.or_eq_true _ _).mp h1.symm with h2 | h2
        · have:=(inSp_iff.1 h2).2; omega
        · have:=memI_lo2 hb h2; omega
      · apply Int.not_lt.1
        intro hlt
        have h1:=h x.2
        rw [memI_cons,memI_cons,(inSp_iff (t:=x.2) (x:=y)).2 ⟨by omega,hlt⟩,Bool.true_or] at h1
        rcases (Bool.or_eq_true _ _).mp h1 with h2 | h2
        · have:=(inSp_iff.1 h2).2; omega
        · have:=memI_lo2 ha h2; omega
    have exy:x = y:=Prod.ext e1 e2
    subst exy
    congr 1
    refine normI_ext ha.tail hb.tail (fun t=>?_)
    by_cases ht:x.2 < t
    · have h1:=h t
      have h2:inSp t x = false:=by
        cases e:inSp t x with
        | false=>rfl
        | true=>have:=(inSp_iff.1 e).2; omega
      rw [memI_cons,memI_cons,h2,Bool.false_or,Bool.false_or] at h1;exact h1
    · have h1:memI a t = false:=by
        cases e:memI a t with
        | false=>rfl
        | true=>exact absurd (memI_lo2 ha e) ht
      have h2:memI b t = false:=by
        cases e:memI b t with
        | false=>rfl
        | true=>exact absurd (memI_lo2 hb e) ht
      rw [h1,h2]
/-! sets that are checked -/
theorem chkI_norm {l:Iv} (h:chkI l = 0):l.length ≤ 1000 ∧ NormI l ∧ ∀ x ∈ l,okSp x:=by
  have h1:l.length ≤ 1000:=by
    unfold chkI at h
    split at h
    · simp at h
    · omega
  refine ⟨h1,⟨fun x hx=>?_,List.pairwise_iff_getElem.2 (fun i j hi hj hij=>?_)⟩,fun x hx=>?_⟩
  · obtain ⟨i,hi,rfl⟩:=List.getElem_of_mem hx
    exact (chkI_at h hi).1
  · have a:=chkI_hi h (j - 1 - i) (i:=i) (by omega)
    have b:=(chkI_at h hj).2 (by omega)
    have e:i + (j - 1 - i) = j - 1:=by omega
    simp only [e] at a;omega
  · obtain ⟨i,hi,rfl⟩:=List.getElem_of_mem hx
    unfold chkI at h
    rw [if_neg (by omega)] at h
    have h2:=firstE_zero h i hi
    rw [spE_at (List.getElem?_eq_getElem hi)] at h2
    split at h2
    · simp at h2
    · rename_i h3; exact Decidable.not_not.1 h3
theorem chkI_of {l:Iv} (h1:l.length ≤ 1000) (h2:NormI l) (h3:∀ x ∈ l,okSp x):chkI l = 0:=by
  unfold chkI
  rw [if_neg (by omega)]
  refine firstE_all (fun k hk=>?_)
  rw [spE_at (List.getElem?_eq_getElem hk),if_neg (fun h=>h (h3 _ (List.getElem_mem hk)))]
  by_cases h0:0 < k
  · have h4:=List.pairwise_iff_getElem.1 h2.2 (k - 1) k (by omega) hk (by omega)
    rw [if_neg]
    rw [List.getD_eq_getElem?_getD,List.getElem?_eq_getElem (by omega),Option.getD_some]
    omega
  · rw [if_neg (fun h=>h0 h.1)]
/-! one more span -/
def absI:Iv → Int × Int → Iv
  | [],x=>[x]
  | y :: l,x=>if y.1 ≤ x.2 then absI l (min x.1 y.1,max x.2 y.2) else x :: y :: l
def insI:Iv → Int × Int → Iv
  | [],x=>[x]
  | y :: l,x=>if y.2 < x.1 then y :: insI l x else absI (y :: l) x
theorem absI_ok:∀ {l:Iv} {x:Int × Int} {lo:Int},NormI l → x.1 < x.2 → (∀ y ∈ l,x.1 ≤ y.2) → lo < x.1 → (∀ y ∈ l,lo < y.1) → NormI (absI l x) ∧ (∀ t,memI (absI l x) t = (memI l t || inSp t x)) ∧ (∀ z ∈ absI l x,lo < z.1) ∧ (absI l x).length ≤ l.length + 1
  | [],x,lo,_,h,_,hlo,_=>⟨NormI.nil.cons h (by simp),fun t=>by simp [absI,memI],by simpa [absI] using hlo,by simp [absI]⟩
  | y :: l,x,lo,hn,h,hy,hlo,hl=>by
    unfold absI
    have hy1:=hn.hd.1
    have hy2:=hy y (by simp)
    have hl1:=hl y (by simp)
    split
    · rename_i hc
      obtain ⟨a,b,c,d⟩:=absI_ok (l:=l) (x:=(min x.1 y.1,max x.2 y.2)) (lo:=lo) hn.tail (by dsimp only; omega) (fun z hz=>by have:=hn.hd.2 z hz; have:=hn.1 z (by simp [hz]); dsimp only; omega) (by dsimp only; omega) (fun z hz=>hl z (by simp [hz]))
      refine ⟨a,fun t=>?_,c,by simp only [List.length_cons]; omega⟩
      rw [b,memI_cons]
      have e:inSp t (min x.1 y.1,max x.2 y.2) = (inSp t x || inSp t y):=by
        rw [Bool.eq_iff_iff,Bool.or_eq_true,inSp_iff,inSp_iff,inSp_iff]
        dsimp only
        omega
      rw [e]
      cases inSp t x <;> cases inSp t y <;> cases memI l t <;> rfl
    · rename_i hc
      refine ⟨hn.cons h (fun z hz=>?_),fun t=>?_,fun z hz=>?_,by simp⟩
      · rcases List.mem_cons.1 hz with rfl | hz
        · omega
        · have:=hn.hd.2 z hz; omega
      · rw [memI_cons,Bool.or_comm]
      · rcases List.mem_cons.1 hz with rfl | hz
        · exact hlo
        · exact hl z hz
theorem insI_ok:∀ {l:Iv} {x:Int × Int} {lo:Int},NormI l → x.1 < x.2 → lo < x.1 → (∀ y ∈ l,lo < y.1) → NormI (insI l x) ∧ (∀ t,memI (insI l x) t = (memI l t || inSp t x)) ∧ (∀ z ∈ insI l x,lo < z.1) ∧ (insI l x).length ≤ l.length + 1
  | [],x,lo,_,h,hlo,_=>⟨NormI.nil.cons h (by simp),fun t=>by simp [insI,memI],by simpa [insI] using hlo,by simp [insI]⟩
  | y :: l,x,lo,hn,h,hlo,hl=>by
    unfold insI
    have hy1:=hn.hd.1
    have hl1:=hl y (by simp)
    split
    · rename_i hc
      obtain ⟨a,b,c,d⟩:=insI_ok (l:=l) (x:=x) (lo:=y.2) hn.tail h hc hn.hd.2
      refine ⟨a.cons hy1 c,fun t=>?_,fun z hz=>?_,by simp only [List.length_cons]; omega⟩
      · rw [memI_cons,b,memI_cons,Bool.or_assoc]
      · rcases List.mem_cons.1 hz with rfl | hz
        · exact hl1
        · have:=c z hz; omega
    · rename_i hc
      refine absI_ok hn h (fun z hz=>?_) hlo hl
      rcases List.mem_cons.1 hz with rfl | hz
      · omega
      · have:=hn.hd.2 z hz
        have:=hn.1 z (by simp [hz])
        omega
theorem lo_ex (l:Iv) (x:Int):∃ lo,lo < x ∧ ∀ y ∈ l,lo < y.1:=by
  induction l with
  | nil=>exact ⟨x - 1,by omega,by simp⟩
  | cons y l ih =>
    obtain ⟨lo,h1,h2⟩:=ih
    refine ⟨min lo (y.1 - 1),by omega,fun z hz=>?_⟩
    rcases List.mem_cons.1 hz with rfl | hz
    · omega
    · have:=h2 z hz; omega
theorem insI_norm {l:Iv} {x:Int × Int} (h:NormI l) (hx:x.1 < x.2):NormI (insI l x) ∧ (∀ t,memI (insI l x) t = (memI l t || inSp t x)) ∧ (insI l x).length ≤ l.length + 1:=by
  obtain ⟨lo,h1,h2⟩:=lo_ex l x.1
  obtain ⟨a,b,_,d⟩:=insI_ok h hx h1 h2
  exact ⟨a,b,d⟩
def insAll (a:Iv) (b:Iv):Iv:=b.foldl insI a
theorem insAll_ok:∀ {b a:Iv},NormI a → (∀ x ∈ b,x.1 < x.2) → NormI (insAll a b) ∧ (∀ t,memI (insAll a b) t = (memI a t || memI b t)) ∧ (insAll a b).length ≤ a.length + b.length
  | [],a,h,_=>⟨h,fun t=>by simp [insAll,memI],by simp [insAll]⟩
  | x :: b,a,h,hb=>by
    obtain ⟨a1,a2,a3⟩:=insI_norm h (hb x (by simp))
    obtain ⟨b1,b2,b3⟩:=insAll_ok (b:=b) a1 (fun y hy=>hb y (by simp [hy]))
    refine ⟨b1,fun t=>?_,?_⟩
    · show memI (insAll (insI a x) b) t = _
      rw [b2,a2,memI_cons,Bool.or_assoc]
    · show (insAll (insI a x) b).length ≤ _
      simp only [List.length_cons];omega
/-! intersection,span by span -/
/-! ends of spans -/
def tog (l:Iv):List Int:=l.flatMap (fun x=>[x.1,x.2])
theorem tog_len:∀ l:Iv,(tog l).length = 2 * l.length
  | []=>rfl
  | x :: l=>by
    have:=tog_len l
    show (x.1 :: x.2 :: tog l).length = _
    simp only [List.length_cons];omega
theorem tog_get:∀ (l:Iv) (i:Nat) (x:Int × Int),l[i]? = some x → (tog l)[2 * i]? = some x.1 ∧ (tog l)[2 * i + 1]? = some x.2
  | [],i,x,h=>by simp at h
  | y :: l,0,x,h=>by
    simp only [List.getElem?_cons_zero,Option.some.injEq] at h;subst h;exact ⟨rfl,rfl⟩
  | y :: l,i + 1,x,h=>by
    have:=tog_get l i x (by simpa using h)
    show (y.1 :: y.2 :: tog l)[2 * (i + 1)]? = _ ∧ (y.1 :: y.2 :: tog l)[2 * (i + 1) + 1]? = _
    rw [show 2 * (i + 1) = 2 * i + 1 + 1 by omega]
    exact this
def parT:List Int → Int → Bool
  | [],_=>false
  | e :: E,t=>if e ≤ t then !(parT E t) else parT E t
theorem parT_tog:∀ {l:Iv},NormI l → ∀ t,parT (tog l) t = memI l t
  | [],_,t=>rfl
  | x :: l,h,t=>by
    have ih:=parT_tog h.tail t
    have hx:=h.hd.1
    show (if x.1 ≤ t then !(if x.2 ≤ t then !(parT (tog l) t) else parT (tog l) t) else (if x.2 ≤ t then !(parT (tog l) t) else parT (tog l) t)) = (inSp t x || memI l t)
    rw [ih]
    have h1:t ≤ x.2 → memI l t = false:=fun hle=>by
      cases e:memI l t with
      | false=>rfl
      | true=>have:=memI_lo2 h e; omega
    have h2:inSp t x = decide (x.1 ≤ t ∧ t < x.2):=by rw [Bool.eq_iff_iff,inSp_iff,decide_eq_true_eq]
    rw [h2]
    by_cases c1:x.1 ≤ t
    · by_cases c2:x.2 ≤ t
      · rw [if_pos c1,if_pos c2,decide_eq_false (by omega),Bool.not_not,Bool.false_or]
      · rw [if_pos c1,if_neg c2,decide_eq_true (by omega),h1 (by omega)]; rfl
    · rw [if_neg c1,if_neg (by omega),decide_eq_false (by omega),Bool.false_or]
def oddB (n:Nat):Bool:=decide (n % 2 = 1)
theorem oddB_succ (n:Nat):oddB (n + 1) = !(oddB n):=by
  unfold oddB
  by_cases h:n % 2 = 1
  · rw [decide_eq_true h,decide_eq_false (by omega)]; rfl
  · rw [decide_eq_false h,decide_eq_true (by omega)]; rfl
theorem parT_snoc (t x:Int):∀ O:List Int,parT (O ++ [t]) x = if t ≤ x then !(parT O x) else parT O x
  | []=>by simp [parT]
  | o :: O=>by
    have ih:=parT_snoc t x O
    show (if o ≤ x then !(parT (O ++ [t]) x) else parT (O ++ [t]) x) = if t ≤ x then !(if o ≤ x then !(parT O x) else parT O x) else (if o ≤ x then !(parT O x) else parT O x)
    rw [ih]
    split <;> split <;> rfl
theorem parT_all {x:Int}:∀ {O:List Int},(∀ o ∈ O,o ≤ x) → parT O x = oddB O.length
  | [],_=>rfl
  | o :: O,h=>by
    show (if o ≤ x then !(parT O x) else parT O x) = oddB (O.length + 1)
    rw [if_pos (h o (by simp)),parT_all (fun p hp=>h p (by simp [hp])),oddB_succ]
theorem parT_none {x:Int}:∀ {O:List Int},(∀ o ∈ O,x < o) → parT O x = false
  | [],_=>rfl
  | o :: O,h=>by
    show (if o ≤ x then !(parT O x) else parT O x) = false
    have:=h o (by simp)
    rw [if_neg (by omega),parT_none (fun p hp=>h p (by simp [hp]))]
def mrg:List Int → Bool → List Int → Bool → List (Int × Bool × Bool)
  | [],_,[],_=>[]
  | a :: A,p,[],q=>(a,!p,q) :: mrg A (!p) [] q
  | [],p,b :: B,q=>(b,p,!q) :: mrg [] p B (!q)
  | a :: A,p,b :: B,q=>if a < b then (a,!p,q) :: mrg A (!p) (b :: B) q else if b < a then (b,p,!q) :: mrg (a :: A) p B (!q) else (a,!p,!q) :: mrg A (!p) B (!q)
termination_by A _ B _=>A.length + B.length
def mcomb1 (f:Bool → Bool → Bool) (O:List Int) (e:Int × Bool × Bool):List Int:=if f e.2.1 e.2.2 = oddB O.length then O else O ++ [e.1]
def mcomb (f:Bool → Bool → Bool) (S:List (Int × Bool × Bool)) (O:List Int):List Int:=S.foldl (mcomb1 f) O
theorem comb1_odd (f:Bool → Bool → Bool) (O:List Int) (e:Int × Bool × Bool):oddB (mcomb1 f O e).length = f e.2.1 e.2.2:=by
  unfold mcomb1
  split
  · rename_i h; exact h.symm
  · rename_i h
    rw [List.length_append,List.length_singleton,oddB_succ]
    cases h1:oddB O.length <;> cases h2:f e.2.1 e.2.2 <;> simp_all
structure Cm (f:Bool → Bool → Bool) (A:List Int) (p:Bool) (B:List Int) (q:Bool) (O O':List Int):Prop where
  asc:O'.Pairwise (· < ·)
  hi:∀ x,(∀ o ∈ O,o ≤ x) → parT O' x = f (p ^^ parT A x) (q ^^ parT B x)
  lo:∀ x,(∀ a ∈ A,x < a) → (∀ b ∈ B,x < b) → parT O' x = parT O x
  len:O'.length ≤ O.length + A.length + B.length
theorem Cm.step {f:Bool → Bool → Bool} {A A1:List Int} {p p1:Bool} {B B1:List Int} {q q1:Bool} {O O':List Int} {t:Int}
    (h:Cm f A1 p1 B1 q1 (mcomb1 f O (t,p1,q1)) O') (ho:oddB O.length = f p q) (hA:∀ a ∈ A,t ≤ a) (hB:∀ b ∈ B,t ≤ b) (hOt:∀ o ∈ O,o < t)
    (eA:∀ x,t ≤ x → (p1 ^^ parT A1 x) = (p ^^ parT A x)) (eB:∀ x,t ≤ x → (q1 ^^ parT B1 x) = (q ^^ parT B x)) (sA:∀ a ∈ A1,t < a) (sB:∀ b ∈ B1,t < b) (hl:A1.length + B1.length + 1 ≤ A.length + B.length) (hin:t ∈ A ∨ t ∈ B):Cm f A p B q O O':=by
  have hmem:∀ o ∈ mcomb1 f O (t,p1,q1),o ≤ t:=fun o ho=>by
    unfold mcomb1 at ho
    split at ho
    · have:=hOt o ho; omega
    · rcases List.mem_append.1 ho with h | h
      · have:=hOt o h; omega
      · have:=List.mem_singleton.1 h; omega
  have hpre:∀ x,x < t → parT (mcomb1 f O (t,p1,q1)) x = parT O x:=fun x hx=>by
    unfold mcomb1
    split
    · rfl
    · rw [parT_snoc,if_neg (by dsimp only; omega)]
  have hcl:(mcomb1 f O (t,p1,q1)).length ≤ O.length + 1:=by
    unfold mcomb1
    split
    · omega
    · simp
  refine ⟨h.asc,fun x hx=>?_,fun x hx hy=>?_,by have:=h.len; omega⟩
  · by_cases ht:t ≤ x
    · rw [h.hi x (fun o ho=>Int.le_trans (hmem o ho) ht),eA x ht,eB x ht]
    · rw [h.lo x (fun a ha=>by have:=sA a ha; omega) (fun b hb=>by have:=sB b hb; omega),hpre x (by omega),parT_all hx,parT_none (fun a ha=>by have:=hA a ha; omega),parT_none (fun b hb=>by have:=hB b hb; omega),Bool.xor_false,Bool.xor_false,ho]
  · have ht:x < t:=by
      rcases hin with h | h
      · exact hx t h
      · exact hy t h
    rw [h.lo x (fun a ha=>by have:=sA a ha; omega) (fun b hb=>by have:=sB b hb; omega),hpre x ht]
theorem comb1_asc {f:Bool → Bool → Bool} {O:List Int} {e:Int × Bool × Bool} (h:O.Pairwise (· < ·)) (ho:∀ o ∈ O,o < e.1):(mcomb1 f O e).Pairwise (· < ·):=by
  unfold mcomb1
  split
  · exact h
  · rw [List.pairwise_append]
    exact ⟨h,List.pairwise_singleton _ _,fun a ha b hb=>by rw [List.mem_singleton.1 hb]; exact ho a ha⟩
theorem comb1_lt {f:Bool → Bool → Bool} {O:List Int} {e:Int × Bool × Bool} {S:List Int} (ho:∀ o ∈ O,∀ a ∈ S,o < a) (he:∀ a ∈ S,e.1 < a):∀ o ∈ mcomb1 f O e,∀ a ∈ S,o < a:=fun o h a ha=>by
  unfold mcomb1 at h
  split at h
  · exact ho o h a ha
  · rcases List.mem_append.1 h with h | h
    · exact ho o h a ha
    · rw [List.mem_singleton.1 h]; exact he a ha
theorem comb_ok (f:Bool → Bool → Bool):∀ (n:Nat) (A:List Int) (p:Bool) (B:List Int) (q:Bool) (O:List Int),A.length + B.length ≤ n → A.Pairwise (· < ·) → B.Pairwise (· < ·) → O.Pairwise (· < ·) → (∀ o ∈ O,∀ a ∈ A,o < a) → (∀ o ∈ O,∀ b ∈ B,o < b) → oddB O.length = f p q → Cm f A p B q O (mcomb f (mrg A p B q) O):=by
  have flip:∀ (p z:Bool),(!p ^^ z) = (p ^^ !z):=by decide
  intro n
  induction n with
  | zero =>
    intro A p B q O hn _ _ hO _ _ ho
    obtain rfl:A = []:=List.eq_nil_of_length_eq_zero (by omega)
    obtain rfl:B = []:=List.eq_nil_of_length_eq_zero (by omega)
    unfold mrg
    exact ⟨hO,fun x hx=>by rw [show mcomb f [] O = O from rfl,parT_all hx,ho]; simp [parT],fun _ _ _=>rfl,by show O.length ≤ _; omega⟩
  | succ n ih =>
    intro A p B q O hn hA hB hO hOA hOB ho
    match A,B,hn,hA,hB,hOA,hOB with
    | [],[],_,_,_,_,_ =>
      unfold mrg
      exact ⟨hO,fun x hx=>by rw [show mcomb f [] O = O from rfl,parT_all hx,ho]; simp [parT],fun _ _ _=>rfl,by show O.length ≤ _; omega⟩
    | a :: A,[],hn,hA,hB,hOA,hOB =>
      unfold mrg
      obtain ⟨a1,a2⟩:=List.pairwise_cons.1 hA
      refine Cm.step (t:=a) (ih A (!p) [] q (mcomb1 f O (a,!p,q)) (by simp at hn ⊢; omega) a2 hB (comb1_asc hO (fun o h=>hOA o h a (by simp))) (comb1_lt (fun o h x hx=>hOA o h x (by simp [hx])) a1) (fun _ _ _ h=>by simp at h) (comb1_odd f O _)) ho (fun x hx=>?_) (fun _ h=>by simp at h) (fun o h=>hOA o h a (by simp)) (fun x hx=>?_) (fun _ _=>rfl) a1 (fun _ h=>by simp at h) (by simp) (.inl (by simp))
      · rcases List.mem_cons.1 hx with rfl | hx
        · exact Int.le_refl _
        · exact Int.le_of_lt (a1 x hx)
      · show (!p ^^ parT A x) = (p ^^ if a ≤ x then !(parT A x) else parT A x)
        rw [if_pos hx,flip]
    | [],b :: B,hn,hA,hB,hOA,hOB =>
      unfold mrg
      obtain ⟨b1,b2⟩:=List.pairwise_cons.1 hB
      refine Cm.step (t:=b) (ih [] p B (!q) (mcomb1 f O (b,p,!q)) (by simp at hn ⊢; omega) hA b2 (comb1_asc hO (fun o h=>hOB o h b (by simp))) (fun _ _ _ h=>by simp at h) (comb1_lt (fun o h x hx=>hOB o h x (by simp [hx])) b1) (comb1_odd f O _)) ho (fun _ h=>by simp at h) (fun x hx=>?_) (fun o h=>hOB o h b (by simp)) (fun _ _=>rfl) (fun x hx=>?_) (fun _ h=>by simp at h) b1 (by simp) (.inr (by simp))
      · rcases List.mem_cons.1 hx with rfl | hx
        · exact Int.le_refl _
        · exact Int.le_of_lt (b1 x hx)
      · show (!q ^^ parT B x) = (q ^^ if b ≤ x then !(parT B x) else parT B x)
        rw [if_pos hx,flip]
    | a :: A,b :: B,hn,hA,hB,hOA,hOB =>
      obtain ⟨a1,a2⟩:=List.pairwise_cons.1 hA
      obtain ⟨b1,b2⟩:=List.pairwise_cons.1 hB
      have la:∀ x ∈ a :: A,a ≤ x:=fun x hx=>by
        rcases List.mem_cons.1 hx with rfl | hx
        · exact Int.le_refl _
        · exact Int.le_of_lt (a1 x hx)
      have lb:∀ x ∈ b :: B,b ≤ x:=fun x hx=>by
        rcases List.mem_cons.1 hx with rfl | hx
        · exact Int.le_refl _
        · exact Int.le_of_lt (b1 x hx)
      unfold mrg
      split
      · rename_i hc
        refine Cm.step (t:=a) (ih A (!p) (b :: B) q (mcomb1 f O (a,!p,q)) (by simp at hn ⊢; omega) a2 hB (comb1_asc hO (fun o h=>hOA o h a (by simp))) (comb1_lt (fun o h x hx=>hOA o h x (by simp [hx])) a1) (comb1_lt hOB (fun x hx=>by have:=lb x hx; dsimp only; omega)) (comb1_odd f O _)) ho la (fun x hx=>by have:=lb x hx; omega) (fun o h=>hOA o h a (by simp)) (fun x hx=>?_) (fun _ _=>rfl) a1 (fun x hx=>by have:=lb x hx; omega) (by simp only [List.length_cons]; omega) (.inl (by simp))
        show (!p ^^ parT A x) = (p ^^ if a ≤ x then !(parT A x) else parT A x)
        rw [if_pos hx,flip]
      · rename_i hc
        split
        · rename_i hc2
          refine Cm.step (t:=b) (ih (a :: A) p B (!q) (mcomb1 f O (b,p,!q)) (by simp at hn ⊢; omega) hA b2 (comb1_asc hO (fun o h=>hOB o h b (by simp))) (comb1_lt hOA (fun x hx=>by have:=la x hx; dsimp only; omega)) (comb1_lt (fun o h x hx=>hOB o h x (by simp [hx])) b1) (comb1_odd f O _)) ho (fun x hx=>by have:=la x hx; omega) lb (fun o h=>hOB o h b (by simp)) (fun _ _=>rfl) (fun x hx=>?_) (fun x hx=>by have:=la x hx; omega) b1 (by simp only [List.length_cons]; omega) (.inr (by simp))
          show (!q ^^ parT B x) = (q ^^ if b ≤ x then !(parT B x) else parT B x)
          rw [if_pos hx,flip]
        · rename_i hc2
          have hab:a = b:=by omega
          subst hab
          refine Cm.step (t:=a) (ih A (!p) B (!q) (mcomb1 f O (a,!p,!q)) (by simp at hn ⊢; omega) a2 b2 (comb1_asc hO (fun o h=>hOA o h a (by simp))) (comb1_lt (fun o h x hx=>hOA o h x (by simp [hx])) a1) (comb1_lt (fun o h x hx=>hOB o h x (by simp [hx])) b1) (comb1_odd f O _)) ho la lb (fun o h=>hOA o h a (by simp)) (fun x hx=>?_) (fun x hx=>?_) a1 b1 (by simp only [List.length_cons]; omega) (.inl (by simp))
          · show (!p ^^ parT A x) = (p ^^ if a ≤ x then !(parT A x) else parT A x)
            rw [if_pos hx,flip]
          · show (!q ^^ parT B x) = (q ^^ if a ≤ x then !(parT B x) else parT B x)
            rw [if_pos hx,flip]
theorem tog_asc:∀ {l:Iv},NormI l → (tog l).Pairwise (· < ·) ∧ ∀ lo,(∀ x ∈ l,lo < x.1) → ∀ e ∈ tog l,lo < e
  | [],_=>⟨.nil,fun _ _ _ h=>by simp [tog] at h⟩
  | x :: l,h=>by
    obtain ⟨h1,h2⟩:=tog_asc h.tail
    have e:tog (x :: l) = x.1 :: x.2 :: tog l:=rfl
    have hx:=h.hd.1
    have h3:=h2 x.2 h.hd.2
    rw [e]
    refine ⟨List.pairwise_cons.2 ⟨fun a ha=>?_,List.pairwise_cons.2 ⟨h3,h1⟩⟩,fun lo hlo a ha=>?_⟩
    · rcases List.mem_cons.1 ha with rfl | ha
      · exact hx
      · have:=h3 a ha; omega
    · have:=hlo x (by simp)
      rcases List.mem_cons.1 ha with rfl | ha
      · exact this
      · rcases List.mem_cons.1 ha with rfl | ha
        · omega
        · have:=h3 a ha; omega
def spans:List Int → Iv
  | []=>[]
  | [a]=>[(a,0)]
  | a :: b :: E=>(a,b) :: spans E
theorem spans_len:∀ E:List Int,(spans E).length = (E.length + 1) / 2
  | []=>rfl
  | [_]=>by simp [spans]
  | a :: b :: E=>by
    have:=spans_len E
    simp only [spans,List.length_cons];omega
theorem spans_even (t:Int):∀ {E:List Int},oddB E.length = false → spans (E ++ [t]) = spans E ++ [(t,0)]
  | [],_=>rfl
  | [_],h=>by simp [oddB] at h
  | a :: b :: E,h=>by
    have h':oddB E.length = false:=by
      simp only [List.length_cons,oddB_succ,Bool.not_not] at h;exact h
    show (a,b) :: spans (E ++ [t]) = _
    rw [spans_even t h']
    rfl
theorem spans_odd (t:Int):∀ {E:List Int},oddB E.length = true → ∃ l a,spans E = l ++ [(a,0)] ∧ spans (E ++ [t]) = l ++ [(a,t)]
  | [],h=>by simp [oddB] at h
  | [a],_=>⟨[],a,rfl,rfl⟩
  | a :: b :: E,h=>by
    have h':oddB E.length = true:=by
      simp only [List.length_cons,oddB_succ,Bool.not_not] at h;exact h
    obtain ⟨l,c,h1,h2⟩:=spans_odd t h'
    refine ⟨(a,b) :: l,c,?_,?_⟩
    · show (a,b) :: spans E = _
      rw [h1]; rfl
    · show (a,b) :: spans (E ++ [t]) = _
      rw [h2]; rfl
theorem spans_norm:∀ {E:List Int},oddB E.length = false → E.Pairwise (· < ·) → NormI (spans E) ∧ tog (spans E) = E
  | [],_,_=>⟨NormI.nil,rfl⟩
  | [_],h,_=>by simp [oddB] at h
  | a :: b :: E,h,hp=>by
    have h':oddB E.length = false:=by
      simp only [List.length_cons,oddB_succ,Bool.not_not] at h;exact h
    obtain ⟨p1,p2⟩:=List.pairwise_cons.1 hp
    obtain ⟨p3,p4⟩:=List.pairwise_cons.1 p2
    obtain ⟨h1,h2⟩:=spans_norm h' p4
    refine ⟨h1.cons (p1 b (by simp)) (fun y hy=>?_),?_⟩
    · have:y.1 ∈ tog (spans E):=by
        unfold tog;rw [List.mem_flatMap]
        exact ⟨y,hy,by simp⟩
      rw [h2] at this;exact p3 _ this
    · show a :: b :: tog (spans E) = _
      rw [h2]
def combI (f:Bool → Bool → Bool) (a b:Iv):Iv:=spans (mcomb f (mrg (tog a) false (tog b) false) [])
theorem combI_ok {f:Bool → Bool → Bool} (hf:f false false = false) {a b:Iv} (ha:NormI a) (hb:NormI b):NormI (combI f a b) ∧ (∀ t,memI (combI f a b) t = f (memI a t) (memI b t)) ∧ (combI f a b).length ≤ a.length + b.length:=by
  have h:=comb_ok f _ (tog a) false (tog b) false [] (Nat.le_refl _) (tog_asc ha).1 (tog_asc hb).1 .nil (fun _ h=>by simp at h) (fun _ h=>by simp at h) hf.symm
  have hx:∀ x,parT (mcomb f (mrg (tog a) false (tog b) false) []) x = f (memI a x) (memI b x):=fun x=>by
    rw [h.hi x (fun _ h=>by simp at h),parT_tog ha,parT_tog hb,Bool.false_xor,Bool.false_xor]
  have hlen:=h.len
  rw [tog_len,tog_len] at hlen
  have hodd:oddB (mcomb f (mrg (tog a) false (tog b) false) []).length = false:=by
    obtain ⟨B,hB⟩:∃ B:Int,(∀ e ∈ mcomb f (mrg (tog a) false (tog b) false) [],e ≤ B) ∧ (∀ x ∈ a,x.2 ≤ B) ∧ (∀ x ∈ b,x.2 ≤ B):=by
      have hi:∀ E:List Int,∃ B,∀ e ∈ E,e ≤ B:=fun E=>by
        induction E with
        | nil=>exact ⟨0,by simp⟩
        | cons e E ih =>
          obtain ⟨B,h⟩:=ih
          exact ⟨max B e, fun x hx => by rcases List.mem_cons.1 hx with rfl | hx; · omega
                                         · have:=h x hx; omega⟩
      obtain ⟨B1,h1⟩:=hi (mcomb f (mrg (tog a) false (tog b) false) [])
      obtain ⟨B2,h2⟩:=hi (a.map Prod.snd)
      obtain ⟨B3,h3⟩:=hi (b.map Prod.snd)
      refine ⟨max B1 (max B2 B3),fun e he=>?_,fun x hx=>?_,fun x hx=>?_⟩
      · have:=h1 e he; omega
      · have:=h2 x.2 (List.mem_map.2 ⟨x,hx,rfl⟩); omega
      · have:=h3 x.2 (List.mem_map.2 ⟨x,hx,rfl⟩); omega
    obtain ⟨h1,h2,h3⟩:=hB
    rw [← parT_all h1,hx]
    have n1:memI a B = false:=by
      cases e:memI a B with
      | false=>rfl
      | true=>obtain ⟨x,hx,_,h5⟩:=memI_iff.1 e; have:=h2 x hx; omega
    have n2:memI b B = false:=by
      cases e:memI b B with
      | false=>rfl
      | true=>obtain ⟨x,hx,_,h5⟩:=memI_iff.1 e; have:=h3 x hx; omega
    rw [n1,n2,hf]
  obtain ⟨h1,h2⟩:=spans_norm hodd h.asc
  refine ⟨h1,fun t=>?_,?_⟩
  · show memI (spans (mcomb f (mrg (tog a) false (tog b) false) [])) t = _
    rw [← parT_tog h1,h2,hx]
  · unfold combI
    rw [spans_len];simp only [List.length_nil] at hlen;omega
def unionI (a b:Iv):Iv:=combI (fun x y=>x || y) a b
theorem unionI_eq {a b:Iv} (ha:NormI a) (hb:NormI b):insAll a b = unionI a b:=by
  obtain ⟨h1,h2,_⟩:=insAll_ok (b:=b) ha hb.1
  obtain ⟨h3,h4,_⟩:=combI_ok (f:=fun x y=>x || y) rfl ha hb
  exact normI_ext h1 h3 (fun t=>by rw [h2]; exact (h4 t).symm)
end Go.Step
