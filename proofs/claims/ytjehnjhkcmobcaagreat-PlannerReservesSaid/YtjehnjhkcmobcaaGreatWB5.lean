/- Texts of this proof, one after the other; no conditions. -/
import Derived.Test.YtjehnjhkcmobcaaGreatRows
import Derived.WideKeyRuns
import Derived.Test.YtjehnjhkcmobcaaGreatWB4
import Derived.Test.YtjehnjhkcmobcaaGreatWB3
import Derived.Test.YtjehnjhkcmobcaaGreatWB2
import Derived.Test.YtjehnjhkcmobcaaGreatWB1
set_option linter.all false
/- Bookings of contacts; tables. No program in sight. No conditions. -/
namespace Go.Step
structure Bk where
  c:Int
  a:Int
  b:Int
  k:Int
deriving DecidableEq
def okBk (cs:List Ct) (x:Bk):Prop:=(0≤x.c∧x.c<cs.length∧0≤x.k∧x.k≤1152921504606846976)∧∃ c,cs[x.c.toNat]?=some c∧c.s≤x.a∧x.a<x.b∧x.b≤c.e
def okBkB (cs:List Ct) (x:Bk):Bool:=decide (0≤x.c∧x.c<cs.length∧0≤x.k∧x.k≤1152921504606846976) && (match cs[x.c.toNat]? with
  | some c=>decide (c.s≤x.a∧x.a<x.b∧x.b≤c.e)
  | none=>false)
theorem okBkB_iff (cs:List Ct) (x:Bk):okBkB cs x=true↔okBk cs x:=by
  unfold okBkB okBk;rw [Bool.and_eq_true,decide_eq_true_iff]
  cases h:cs[x.c.toNat]? with
  | none=>simp
  | some c=>simp
def cmpBk (x y:Bk):Int:=orI [cmpI x.c y.c,cmpI x.a y.a]
theorem cmpBk_lt (x y:Bk):cmpBk x y<0↔x.c<y.c∨(x.c=y.c∧x.a<y.a):=by
  unfold cmpBk
  rcases orI_cmp x.c y.c [cmpI x.a y.a] with ⟨h1,e⟩|⟨h1,e⟩|⟨h1,e⟩
  · rw [e]; omega
  · rw [e]
    rcases orI_cmp x.a y.a [] with ⟨h2,e⟩|⟨h2,e⟩|⟨h2,e⟩
    · rw [e]; omega
    · rw [e]; simp only [orI]; omega
    · rw [e]; omega
  · rw [e]; omega
def bk2E (p x:Bk):Int:=if ¬ cmpBk p x<0 then 9 else if p.c=x.c∧x.a<p.b then 14 else 0
def bkE (cs:List Ct) (l:List Bk) (i:Nat):Int:=match l[i]? with
  | some x=>if okBkB cs x=false then 2 else if i=0 then 0 else bk2E (l.getD (i-1) x) x
  | none=>0
theorem bkE_at {cs:List Ct} {l:List Bk} {i:Nat} {x:Bk} (e:l[i]?=some x):bkE cs l i=if okBkB cs x=false then 2 else if i=0 then 0 else bk2E (l.getD (i-1) x) x:=by unfold bkE; rw [e]
def chkB (qs:List Int) (cs:List Ct) (l:List Bk):Int:=
  if chkPl qs cs≠0 then 1 else if 512<l.length then 4 else firstE (bkE cs l) l.length
def chkT (qs:List Int) (cs:List Ct) (bs:List Bk) (hs:List Hd):Int:=
  if chkPl qs cs≠0 then chkPl qs cs else if chkB qs cs bs≠0 then chkB qs cs bs else chkH qs cs hs
def busyL (l:List Bk) (c:Int):List (Int × Int):=(l.filter (fun x=>decide (x.c=c))).map (fun x=>(x.a,x.b))
theorem busyL_next (c:Int) {l:List Bk} {k:Nat} {x:Bk} (h:l[k]?=some x):busyL (l.take (k+1)) c=busyL (l.take k) c ++ (if x.c=c then [(x.a,x.b)] else []):=by
  obtain ⟨hk,rfl⟩:=List.getElem?_eq_some_iff.1 h
  unfold busyL;rw [List.take_succ_eq_append_getElem hk,List.filter_append,List.map_append]
  congr 1
  by_cases e:l[k].c=c
  · simp [e]
  · simp [e]
theorem busyL_len (l:List Bk) (c:Int):(busyL l c).length≤l.length:=by
  unfold busyL;rw [List.length_map];exact List.length_filter_le _ _
def bookedB (l:List Bk) (c t:Int):Bool:=(busyL l c).any (fun x=>decide (x.1≤t) && decide (t<x.2))
theorem bkE_ok {cs:List Ct} {l:List Bk} (h:firstE (bkE cs l) l.length=0):∀ x∈l,okBk cs x:=fun x hx=>by
  obtain ⟨i,hi,rfl⟩:=List.getElem_of_mem hx
  have h2:=firstE_zero h i hi
  rw [bkE_at (List.getElem?_eq_getElem hi)] at h2
  cases hc:okBkB cs l[i] with
  | true=>exact (okBkB_iff _ _).1 hc
  | false=>rw [if_pos hc] at h2; omega
theorem chkT_ok {qs:List Int} {cs:List Ct} {bs:List Bk} {hs:List Hd} (h:chkT qs cs bs hs=0):chkPl qs cs=0∧chkB qs cs bs=0∧chkH qs cs hs=0:=by
  unfold chkT at h
  by_cases h1:chkPl qs cs=0
  · rw [if_neg (by simpa using h1)] at h
    by_cases h2:chkB qs cs bs=0
    · rw [if_neg (by simpa using h2)] at h
      exact ⟨h1,h2,h⟩
    · rw [if_pos h2] at h; exact absurd h h2
  · rw [if_pos h1] at h; exact absurd h h1
theorem chkB_ok {qs:List Int} {cs:List Ct} {bs:List Bk} (h:chkB qs cs bs=0):bs.length≤512∧firstE (bkE cs bs) bs.length=0:=by
  unfold chkB at h
  by_cases h1:chkPl qs cs=0
  · rw [if_neg (by simpa using h1)] at h
    by_cases h2:512<bs.length
    · rw [if_pos h2] at h; omega
    · rw [if_neg h2] at h; exact ⟨by omega,h⟩
  · rw [if_pos h1] at h; omega
end Go.Step
namespace Go.Proofs.YtjehnjhkcmobcaaGreat
open Go.Eng Go.Step
set_option maxRecDepth 100000
set_option maxHeartbeats 64000000
theorem bkValid_spec (τ:PH) (pq pc:Option Addr) (nq kq kc:Nat) (cs:List Ct) (x:Bk) (hc:CtAt τ (.slice pc cs.length kc) cs) :
  Ans Tryz.prog (fv 102) [.agg #[.slice pq nq kq,.slice pc cs.length kc],.agg #[int x.c,int x.a,int x.b,int x.k]] [τ] (fun r=>r=.bool (okBkB cs x)):=by
 obtain ⟨_,_,e,hrc⟩:=hc.val encC_len
 simp only [Value.slice.injEq] at e
 obtain ⟨rfl,_,rfl⟩:=e
 refine spec_in (cap:=[]) Tryz.func102 rfl rfl Tryz.ntmps102 rfl envZ (fun N β=>?_)
 refine Aa ?_;refine BH (BO rfl) rfl rfl rfl ?_;rintro _ _ ⟨b2,rfl,rfl⟩;refine AW (ρ:=sng b2 _) takeZ ?_
 have cp:=rdB b2 25 [.slice pq nq kq,.slice pc cs.length kc]
 have cp1:=rdC cp 1
 refine BH (BO rfl) rfl rfl rfl ?_;rintro _ _ ⟨b3,rfl,rfl⟩;refine AW (ρ:=sng b3 _) takeZ ?_
 have cx:=rdB b3 95 [int x.c,int x.a,int x.b,int x.k]
 have cx0:=rdC cx 0
 have cx1:=rdC cx 1
 have cx2:=rdC cx 2
 have cx3:=rdC cx 3
 by_cases hin:0≤x.c∧x.c<cs.length∧0≤x.k∧x.k≤1152921504606846976
 ·obtain ⟨nn,hnn⟩:∃ nn:Nat,x.c=nn:=⟨x.c.toNat,by omega⟩
  have hlt:nn<cs.length:=by omega
  have hx:=List.getElem?_eq_getElem hlt
  obtain ⟨b1,o1,rfl,hrd⟩:=ctRow hrc hx
  have hok:okBkB cs x=decide (cs[nn].s≤x.a∧x.a<x.b∧x.b≤cs[nn].e):=by
   unfold okBkB;rw [decide_eq_true hin,Bool.true_and,hnn,Int.toNat_natCast,hx]
  rw [hok]
  have cn:rdc (sng b3 (.cells #[int x.c,int x.a,int x.b,int x.k] 95 (0,0))) b3 0=some (int nn):=by rw [rdc_sng,← hnn]; rfl
  clear cx0 hok
  generalize cs[nn]=c at hrd
  refine Aes ?_;refine Aen ?_;refine AU ?_;refine Ahc ?_;refine Aei ?_;refine Ab4 ?_;refine Abm ?_;refine A4 ?_; rintro _ _ ⟨b,rfl,rfl⟩;refine AY ?_; rintro _ _ ⟨rfl,rfl⟩;refine AE ?_;refine Ab4 ?_
  by_cases h1:c.s≤x.a
  ·by_cases h2:x.a<x.b
   ·by_cases h3:x.b≤c.e
    ·rw [decide_eq_true ⟨h1,h2,h3⟩]
     refine CX ?_;refine Abj ?_;refine BD ?_;refine Ad4 ?_;refine C9 ?_;refine Acs ?_;exact A3 ⟨rfl,rfl⟩
    ·rw [decide_eq_false (fun h=>h3 h.2.2)]
     refine CX ?_;refine Abj ?_;refine BD ?_;refine Ad4 ?_;refine DB ?_;refine Acs ?_;exact A3 ⟨rfl,rfl⟩
   ·rw [decide_eq_false (fun h=>h2 h.2.1)]
    refine CX ?_;refine Abj ?_;refine A0 ?_;refine AR ?_;refine Afe ?_;refine Aaa ?_;exact A3 ⟨rfl,rfl⟩
  ·rw [decide_eq_false (fun h=>h1 h.1)]
   refine BP ?_;refine Afe ?_;refine Afe ?_;refine Aaa ?_;exact A3 ⟨rfl,rfl⟩
 ·have hok:okBkB cs x=false:=by
   unfold okBkB;rw [decide_eq_false hin,Bool.false_and]
  rw [hok]
  by_cases h1:x.c<0
  ·refine AD ?_
   refine Af9 ?_;refine BD ?_;refine Adh ?_;refine AR ?_;refine Ags ?_;exact A3 ⟨rfl,rfl⟩
  by_cases h2:(cs.length:Int)≤x.c
  ·refine AD ?_
   refine Af9 ?_;refine Aen ?_;refine AU ?_;refine CX ?_;refine AN ?_;refine Ags ?_;exact A3 ⟨rfl,rfl⟩
  by_cases h3:x.k<0
  ·refine AD ?_
   refine Af9 ?_;refine Aen ?_;refine AU ?_;refine Ab7 ?_;refine BD ?_;refine AN ?_;refine Ae6 ?_;exact A3 ⟨rfl,rfl⟩
  by_cases h4:1152921504606846976<x.k
  ·refine AD ?_
   refine Af9 ?_;refine Aen ?_;refine AU ?_;refine Ahc ?_;refine Ag0 ?_;exact A3 ⟨rfl,rfl⟩
  ·exfalso; omega
theorem refBkValid_spec (τ:PH) (pq pc:Option Addr) (nq kq kc:Nat) (cs:List Ct) (x:Bk) (hc:CtAt τ (.slice pc cs.length kc) cs) :
  Ans Tryz.prog (fv 170) [.agg #[.slice pq nq kq,.slice pc cs.length kc],.agg #[int x.c,int x.a,int x.b,int x.k]] [τ] (fun r=>r=.bool (okBkB cs x)):=by
 obtain ⟨_,_,e,hrc⟩:=hc.val encC_len
 simp only [Value.slice.injEq] at e
 obtain ⟨rfl,_,rfl⟩:=e
 refine spec_in (cap:=[]) Tryz.func170 rfl rfl Tryz.ntmps170 rfl envZ (fun N β=>?_)
 refine Aa ?_;refine BH (BO rfl) rfl rfl rfl ?_;rintro _ _ ⟨b2,rfl,rfl⟩;refine AW (ρ:=sng b2 _) takeZ ?_
 have cp:=rdB b2 25 [.slice pq nq kq,.slice pc cs.length kc]
 have cp1:=rdC cp 1
 refine BH (BO rfl) rfl rfl rfl ?_;rintro _ _ ⟨b3,rfl,rfl⟩;refine AW (ρ:=sng b3 _) takeZ ?_
 have cx:=rdB b3 95 [int x.c,int x.a,int x.b,int x.k]
 have cx0:=rdC cx 0
 have cx1:=rdC cx 1
 have cx2:=rdC cx 2
 have cx3:=rdC cx 3
 by_cases hin:0≤x.c∧x.c<cs.length∧0≤x.k∧x.k≤1152921504606846976
 ·obtain ⟨nn,hnn⟩:∃ nn:Nat,x.c=nn:=⟨x.c.toNat,by omega⟩
  have hlt:nn<cs.length:=by omega
  have hx:=List.getElem?_eq_getElem hlt
  obtain ⟨b1,o1,rfl,hrd⟩:=ctRow hrc hx
  have hok:okBkB cs x=decide (cs[nn].s≤x.a∧x.a<x.b∧x.b≤cs[nn].e):=by
   unfold okBkB;rw [decide_eq_true hin,Bool.true_and,hnn,Int.toNat_natCast,hx]
  rw [hok]
  have cn:rdc (sng b3 (.cells #[int x.c,int x.a,int x.b,int x.k] 95 (0,0))) b3 0=some (int nn):=by rw [rdc_sng,← hnn]; rfl
  clear cx0 hok
  generalize cs[nn]=c at hrd
  refine Aes ?_;refine Aen ?_;refine AU ?_;refine Ahc ?_;refine Aei ?_;refine Ab4 ?_;refine Abm ?_;refine A4 ?_; rintro _ _ ⟨b,rfl,rfl⟩;refine AY ?_; rintro _ _ ⟨rfl,rfl⟩;refine AE ?_;refine Ab4 ?_
  by_cases h1:c.s≤x.a
  ·by_cases h2:x.a<x.b
   ·by_cases h3:x.b≤c.e
    ·rw [decide_eq_true ⟨h1,h2,h3⟩]
     refine C9 ?_;refine Abj ?_;refine BD ?_;refine Ad4 ?_;refine C9 ?_;refine Acs ?_;exact A3 ⟨rfl,rfl⟩
    ·rw [decide_eq_false (fun h=>h3 h.2.2)]
     refine C9 ?_;refine Abj ?_;refine BD ?_;refine Ad4 ?_;refine DB ?_;refine Acs ?_;exact A3 ⟨rfl,rfl⟩
   ·rw [decide_eq_false (fun h=>h2 h.2.1)]
    refine C9 ?_;refine Abj ?_;refine A0 ?_;refine AR ?_;refine Afe ?_;refine Aaa ?_;exact A3 ⟨rfl,rfl⟩
  ·rw [decide_eq_false (fun h=>h1 h.1)]
   refine DB ?_;refine Afe ?_;refine Afe ?_;refine Aaa ?_;exact A3 ⟨rfl,rfl⟩
 ·have hok:okBkB cs x=false:=by
   unfold okBkB;rw [decide_eq_false hin,Bool.false_and]
  rw [hok]
  by_cases h1:x.c<0
  ·refine AD ?_
   refine Af9 ?_;refine BD ?_;refine Adh ?_;refine AR ?_;refine Ags ?_;exact A3 ⟨rfl,rfl⟩
  by_cases h2:(cs.length:Int)≤x.c
  ·refine AD ?_
   refine Af9 ?_;refine Aen ?_;refine AU ?_;refine CX ?_;refine AN ?_;refine Ags ?_;exact A3 ⟨rfl,rfl⟩
  by_cases h3:x.k<0
  ·refine AD ?_
   refine Af9 ?_;refine Aen ?_;refine AU ?_;refine Ab7 ?_;refine BD ?_;refine AN ?_;refine Ae6 ?_;exact A3 ⟨rfl,rfl⟩
  by_cases h4:1152921504606846976<x.k
  ·refine AD ?_
   refine Af9 ?_;refine Aen ?_;refine AU ?_;refine Ahc ?_;refine Ag0 ?_;exact A3 ⟨rfl,rfl⟩
  ·exfalso; omega
def encB (x:Bk):List Value:=[int x.c,int x.a,int x.b,int x.k]
theorem encB_len (x:Bk):(encB x).length=4:=rfl
abbrev BkAt (ρ:PH) (v:Value) (l:List Bk):Prop:=SlE encB 4 ρ v l
theorem bkRow {ρ:PH} {p:Option Addr} {l:List Bk} (h:RowsE encB 4 ρ p l) {i:Nat} {x:Bk} (hx:l[i]?=some x) :
  ∃ b o,p=some ⟨b,o,none⟩∧RdN ρ b (o+i*4) [int x.c,int x.a,int x.b,int x.k]∧rdc ρ b (o+i*4)=some (int x.c)∧rdc ρ b (o+i*4+1)=some (int x.a)∧rdc ρ b (o+i*4+2)=some (int x.b)∧rdc ρ b (o+i*4+3)=some (int x.k):=by
 obtain ⟨b,o,e,hr⟩:=h i x hx
 exact ⟨b,o,e,hr,hr.get0,hr.get (j:=1) rfl,hr.get (j:=2) rfl,hr.get (j:=3) rfl⟩
theorem bkCompare_spec (x y:Bk):Ans Tryz.prog (fv 103) [.agg #[int x.c,int x.a,int x.b,int x.k],.agg #[int y.c,int y.a,int y.b,int y.k]] [] (fun r=>r=int (cmpBk x y)):=by
 refine spec_in (cap:=[]) Tryz.func103 rfl rfl Tryz.ntmps103 rfl envZ (fun N β=>?_)
 refine Aa ?_;refine CO ?_; rintro _ _ ⟨b,rfl,rfl⟩;refine CO ?_; rintro _ _ ⟨b,rfl,rfl⟩;refine Abl ?_
 refine A6 (.q 0 (.q 1 (.q 2 (.q 3 (.q 5 (.q 6 (.q 7 (.q 8 (.l 4 .e (.l 9 .e (.l 10 .e (.l 11 .e (.q 12 .nil))))))))))))) [] rfl (by kernel_rfl) selZ ?_
 refine Adl ?_;refine Adl ?_
 focus ((refine CF (CC rfl (cmpI_spec _ _) rfl rfl rdZ rfl rfl ?_); rintro _ rfl))
 focus ((refine CF (CC rfl (cmpI_spec _ _) rfl rfl rdZ rfl rfl ?_); rintro _ rfl))
 refine BF ?_; rintro _ _ ⟨b,rfl,rfl⟩
 revert b; intro bo
 refine CF (CC rfl (or_spec (sng bo _) _ [cmpI x.c y.c,cmpI x.a y.a] (slE_sng Eng.encI_len) (by simp)) rfl rfl rdZ rfl rfl ?_)
 rintro _ rfl;refine Adr ?_
 skip
 exact A3 ⟨rfl,rfl⟩
theorem bkCheck_spec (ρ τ σ:PH) (pq pc:Option Addr) (kq kc:Nat) (qs:List Int) (cs:List Ct) (v:Value) (l:List Bk) (hq:IntsAt ρ (.slice pq qs.length kq) qs) (hc:CtAt τ (.slice pc cs.length kc) cs) (hcap:cs.length≤kc) (lq:qs.length≤9223372036854775807) (lc:cs.length≤9223372036854775807) (hv:BkAt σ v l) (hl:l.length≤9223372036854775807) :
  Ans Tryz.prog (fv 45) [.agg #[.slice pq qs.length kq,.slice pc cs.length kc],v] [ρ,τ,σ] (fun r=>r=int (chkB qs cs l)):=by
 have hv2:=hv
 obtain ⟨q,c,rfl,hr⟩:=hv.val encB_len
 refine spec_in (cap:=[]) Tryz.func45 rfl rfl Tryz.ntmps45 rfl envZ (fun N β=>?_)
 refine Aa ?_;refine BH (BO rfl) rfl rfl rfl ?_;rintro _ _ ⟨b1,rfl,rfl⟩;refine AW (ρ:=sng b1 _) takeZ ?_
 have c1:=rdB b1 25 [.slice pq qs.length kq,.slice pc cs.length kc]
 refine Abl ?_;refine Abt ?_;refine BC (planCheck_spec ρ τ pq pc kq kc qs cs hq hc hcap lq lc) rfl rfl rdZ rfl rfl ?_;rintro _ rfl;unfold chkB
 by_cases hp:chkPl qs cs=0
 rotate_left
 ·rw [if_pos hp]
  generalize chkPl qs cs=z at hp
  refine CJ ?_;refine Aba ?_;exact A3 ⟨rfl,rfl⟩
 rw [if_neg (fun h=>h hp),hp]
 by_cases hbig:512<l.length
 ·rw [if_pos hbig]
  refine Ahb ?_;refine CT ?_;refine Aba ?_;exact A3 ⟨rfl,rfl⟩
 rw [if_neg hbig];refine Ahb ?_;refine Af ?_;refine Acm ?_
 refine BA [1,2,13,14] (0:Nat) (fun k=>k≤l.length∧firstE (bkE cs l) k=0) (fun k=>[(15,int k)]) (fun _=>[]) (fun k=>l.length-k) pickZ ⟨by omega,rfl⟩ covZ selZ ?_
 rintro k ⟨hk,hI⟩
 by_cases hlt:k<l.length
 ·have hx:=List.getElem?_eq_getElem hlt
  obtain ⟨b2,o2,rfl,hrd,g0,g1,g2,g3⟩:=bkRow hr hx
  have hE:=bkE_at (cs:=cs) hx
  generalize l[k]=x at hrd g0 g1 g2 g3 hE
  refine Afb ?_;refine A4 ?_; rintro _ _ ⟨b,rfl,rfl⟩;refine AD ?_;refine AY ?_; rintro _ _ ⟨rfl,rfl⟩;refine Aat ?_;refine Acu ?_
  revert b; intro b6
  refine BC (bkValid_spec τ pq pc qs.length kq kc cs x hc) rfl rfl rdZ rfl rfl ?_;rintro _ rfl
  cases hok:okBkB cs x with
  | false =>
   rw [if_pos hok] at hE
   have hh:=firstE_hit hI (by rw [hE]; decide) _ hlt
   rw [hh,hE];refine BN ?_;refine Aba ?_;exact A3 ⟨rfl,rfl⟩
  | true =>
  rw [if_neg (by rw [hok]; simp)] at hE
  by_cases h0:k=0
  ·subst h0
   rw [if_pos rfl] at hE;refine Acw ?_;refine Aah ?_;refine Ag1 ?_;refine A8 rfl ?_;refine AA ?_;refine Abe ?_
   exact AT (0+1) ⟨by omega,firstE_ok hI hE⟩ (by omega) covZ selZ
  ·have hlt':k-1<l.length:=by omega
   have hx':=List.getElem?_eq_getElem hlt'
   obtain ⟨_,_,e,hrd',p0,p1,p2,p3⟩:=bkRow hr hx'
   simp only [Option.some.injEq,Addr.mk.injEq,and_true] at e
   obtain ⟨rfl,rfl⟩:=e
   rw [if_neg h0,List.getD_eq_getElem?_getD,hx',Option.getD_some] at hE
   generalize l[k-1]=p at hrd' p0 p1 p2 p3 hE
   have hle:=bkCompare_spec p x
   unfold bk2E at hE
   generalize cmpBk p x=z at hle hE
   refine Acw ?_;refine Aah ?_;refine Adu ?_;refine Acp ?_
   refine A6 (.q 0 (.q 1 (.q 2 (.q 3 (.q 4 (.q 5 (.l 6 .e (.q 7 .nil)))))))) [sng b6 _] rfl (by kernel_rfl) selZ ?_
   refine Adp ?_;refine BJ ?_;refine BJ ?_;refine CF (CC rfl hle rfl rfl rdZ rfl rfl ?_);rintro _ rfl
   by_cases hc9:z<0
   rotate_left
   ·rw [if_pos hc9] at hE
    have hh:=firstE_hit hI (by rw [hE]; decide) _ hlt
    rw [hh,hE];refine zd_ge ?_;refine Ah ?_;exact A3 ⟨rfl,rfl⟩
   rw [if_neg (fun h=>h hc9)] at hE
   refine zd_geF ?_;refine Ab8 ?_;refine AC ?_
   refine A6 (.q 0 (.q 1 (.q 2 (.q 3 (.q 4 (.q 5 (.q 6 (.q 7 (.q 8 (.q 9 (.q 10 (.q 11 (.q 12 (.q 13 (.q 14 (.q 15 (.q 16 (.q 17 (.q 18 (.q 19 .nil)))))))))))))))))))) [sng b6 _] rfl (by kernel_rfl) selZ ?_
   by_cases e1:p.c=x.c
   ·by_cases e2:x.a<p.b
    ·rw [if_pos ⟨e1,e2⟩] at hE
     have hh:=firstE_hit hI (by rw [hE]; decide) _ hlt
     rw [hh,hE];refine Adp ?_;refine Adq ?_;refine DP ?_;refine Afy ?_;refine Ag ?_;refine D6 ?_;refine Agr ?_;exact A3 ⟨rfl,rfl⟩
    ·rw [if_neg (by omega)] at hE
     refine Adp ?_;refine Adq ?_;refine DP ?_;refine Afy ?_;refine Ag ?_;refine DK ?_;refine Agl ?_;refine Abf ?_
     exact AT (k+1) ⟨by omega,firstE_ok hI hE⟩ (by omega) covZ selZ
   ·rw [if_neg (by omega)] at hE
    refine Adp ?_;refine Adq ?_;refine C7 ?_;refine Ac2 ?_;refine Ad ?_;refine Ab8 ?_;refine Abf ?_
    exact AT (k+1) ⟨by omega,firstE_ok hI hE⟩ (by omega) covZ selZ
 have hke:k=l.length:=by omega
 subst hke;rw [hI];refine Acd ?_;refine Aai ?_;exact A3 ⟨rfl,rfl⟩
theorem refBkCheck_spec (ρ τ σ:PH) (pq pc:Option Addr) (kq kc:Nat) (qs:List Int) (cs:List Ct) (v:Value) (l:List Bk) (hq:IntsAt ρ (.slice pq qs.length kq) qs) (hc:CtAt τ (.slice pc cs.length kc) cs) (hcap:cs.length≤kc) (lq:qs.length≤9223372036854775807) (lc:cs.length≤9223372036854775807) (hv:BkAt σ v l) (hl:l.length≤9223372036854775807) :
  Ans Tryz.prog (fv 111) [.agg #[.slice pq qs.length kq,.slice pc cs.length kc],v] [ρ,τ,σ] (fun r=>r=int (chkB qs cs l)):=by
 have hv2:=hv
 obtain ⟨q,c,rfl,hr⟩:=hv.val encB_len
 refine spec_in (cap:=[]) Tryz.func111 rfl rfl Tryz.ntmps111 rfl envZ (fun N β=>?_)
 refine Aa ?_;refine BH (BO rfl) rfl rfl rfl ?_;rintro _ _ ⟨b1,rfl,rfl⟩;refine AW (ρ:=sng b1 _) takeZ ?_
 have c1:=rdB b1 25 [.slice pq qs.length kq,.slice pc cs.length kc]
 refine Abl ?_;refine Abt ?_;refine BC (refPlanCheck_spec ρ τ pq pc kq kc qs cs hq hc lq lc) rfl rfl rdZ rfl rfl ?_;rintro _ rfl;unfold chkB
 by_cases hp:chkPl qs cs=0
 rotate_left
 ·rw [if_pos hp]
  generalize chkPl qs cs=z at hp
  refine CJ ?_;refine Aba ?_;exact A3 ⟨rfl,rfl⟩
 rw [if_neg (fun h=>h hp),hp]
 by_cases hbig:512<l.length
 ·rw [if_pos hbig]
  refine Ahb ?_;refine CT ?_;refine Aba ?_;exact A3 ⟨rfl,rfl⟩
 rw [if_neg hbig];refine Ahb ?_;refine Af ?_;refine Acv ?_
 refine BA [1,2] (0:Nat) (fun k=>k≤l.length∧firstE (bkE cs l) k=0) (fun k=>[(5,int k)]) (fun _=>[]) (fun k=>l.length-k) pickZ ⟨by omega,rfl⟩ covZ selZ ?_
 rintro k ⟨hk,hI⟩
 by_cases hlt:k<l.length
 ·have hx:=List.getElem?_eq_getElem hlt
  obtain ⟨b2,o2,rfl,hrd,g0,g1,g2,g3⟩:=bkRow hr hx
  have hE:=bkE_at (cs:=cs) hx
  generalize l[k]=x at hrd g0 g1 g2 g3 hE
  refine Abo ?_;refine Acp ?_
  refine A6 (.q 0 (.q 1 (.q 2 (.q 3 (.q 4 (.l 5 .e (.q 6 .nil))))))) [] rfl (by kernel_rfl) Sel.nil ?_
  refine BJ ?_;refine Ae ?_;refine CF (CC rfl (refBkValid_spec τ pq pc qs.length kq kc cs x hc) rfl rfl rdZ rfl rfl ?_);rintro _ rfl
  cases hok:okBkB cs x with
  | false =>
   rw [if_pos hok] at hE
   have hh:=firstE_hit hI (by rw [hE]; decide) _ hlt
   rw [hh,hE];refine C8 ?_;refine Ah ?_;exact A3 ⟨rfl,rfl⟩
  | true =>
  rw [if_neg (by rw [hok]; simp)] at hE
  by_cases h0:k=0
  ·subst h0
   rw [if_pos rfl] at hE;refine C8 ?_;refine Ab8 ?_;refine Acp ?_
   refine A6 P2Z [] rfl (by kernel_rfl) Sel.nil ?_
   refine AI ?_;refine DP ?_;refine Ac2 ?_;refine Abb ?_;refine Adg ?_;refine A8 rfl ?_;refine Ae7 ?_
   exact AT (0+1) ⟨by omega,firstE_ok hI hE⟩ (by omega) covZ selZ
  ·have hlt':k-1<l.length:=by omega
   have hx':=List.getElem?_eq_getElem hlt'
   obtain ⟨_,_,e,hrd',p0,p1,p2,p3⟩:=bkRow hr hx'
   simp only [Option.some.injEq,Addr.mk.injEq,and_true] at e
   obtain ⟨rfl,rfl⟩:=e
   rw [if_neg h0,List.getD_eq_getElem?_getD,hx',Option.getD_some] at hE
   generalize l[k-1]=p at hrd' p0 p1 p2 p3 hE
   have hlt3:=cmpBk_lt p x
   unfold bk2E at hE;refine C8 ?_;refine Ab8 ?_;refine Acp ?_
   refine A6 P2Z [] rfl (by kernel_rfl) Sel.nil ?_
   by_cases e1:p.c<x.c
   ·rw [if_neg (fun h=>h (hlt3.2 (.inl e1))),if_neg (by omega)] at hE
    refine AI ?_;refine C7 ?_;refine Agj ?_;refine Adp ?_;refine Ac ?_;refine DY ?_;refine BM ?_;refine Ab5 ?_;refine A8 rfl ?_;refine Ae7 ?_
    exact AT (k+1) ⟨by omega,firstE_ok hI hE⟩ (by omega) covZ selZ
   refine AI ?_;refine C7 ?_;refine Agj ?_;refine Adp ?_;refine Ac ?_;refine DL ?_;refine Ag2 ?_;refine Acp ?_
   refine A6 (.q 0 (.q 1 (.q 2 (.q 3 (.q 4 (.q 5 (.q 6 (.q 7 (.q 8 (.q 9 (.q 10 (.q 11 (.q 12 (.q 13 (.q 14 (.q 15 (.q 16 (.q 17 (.q 18 (.q 19 (.q 20 (.q 21 (.q 22 (.q 23 (.q 24 (.q 25 .nil)))))))))))))))))))))))))) [] rfl (by kernel_rfl) Sel.nil ?_
   by_cases e2:x.c<p.c
   ·rw [if_pos (fun h=>by have:=hlt3.1 h; omega)] at hE
    have hh:=firstE_hit hI (by rw [hE]; decide) _ hlt
    rw [hh,hE];refine Agk ?_;refine Adp ?_;refine Ac ?_;refine D6 ?_;refine Ac2 ?_;refine Abb ?_;refine Agr ?_;exact A3 ⟨rfl,rfl⟩
   by_cases e3:x.a≤p.a
   ·rw [if_pos (fun h=>by have:=hlt3.1 h; omega)] at hE
    have hh:=firstE_hit hI (by rw [hE]; decide) _ hlt
    rw [hh,hE];refine Agk ?_;refine Adp ?_;refine Ac ?_;refine DK ?_;refine Ad1 ?_;refine Ag ?_;refine ES ?_;refine BM ?_;refine Ah ?_;exact A3 ⟨rfl,rfl⟩
   rw [if_neg (fun h=>h (hlt3.2 (by omega)))] at hE
   refine Agk ?_;refine Adp ?_;refine Ac ?_;refine DK ?_;refine Ad1 ?_;refine Ag ?_;refine DZ ?_;refine Ag2 ?_;refine AC ?_
   refine A6 P1Z [] rfl (by kernel_rfl) Sel.nil ?_
   by_cases e4:x.a<p.b
   ·rw [if_pos (by omega)] at hE
    have hh:=firstE_hit hI (by rw [hE]; decide) _ hlt
    rw [hh,hE];refine Ado ?_;refine Ag ?_;refine D6 ?_;refine Ah ?_;exact A3 ⟨rfl,rfl⟩
   ·rw [if_neg (by omega)] at hE
    refine Ado ?_;refine Ag ?_;refine DK ?_;refine Aee ?_
    exact AT (k+1) ⟨by omega,firstE_ok hI hE⟩ (by omega) covZ selZ
 have hke:k=l.length:=by omega
 subst hke;rw [hI];refine Aha ?_;exact A3 ⟨rfl,rfl⟩
def encS (x:Int × Int):List Value:=[int x.1,int x.2]
theorem encS_len (x:Int × Int):(encS x).length=2:=rfl
abbrev SpAt (ρ:PH) (v:Value) (l:List (Int × Int)):Prop:=SlE encS 2 ρ v l
theorem spRow {ρ:PH} {p:Option Addr} {l:List (Int × Int)} (h:RowsE encS 2 ρ p l) {i:Nat} {x:Int × Int} (hx:l[i]?=some x) :
  ∃ b o,p=some ⟨b,o,none⟩∧RdN ρ b (o+i*2) [int x.1,int x.2]∧rdc ρ b (o+i*2)=some (int x.1)∧rdc ρ b (o+i*2+1)=some (int x.2):=by
 obtain ⟨b,o,e,hr⟩:=h i x hx
 exact ⟨b,o,e,hr,hr.get0,hr.get (j:=1) rfl⟩
structure TbAt (ρ τ σ υ:PH) (pq pc pb ph:Option Addr) (kq kc kb kh:Nat) (qs:List Int) (cs:List Ct) (bs:List Bk) (hs:List Hd):Prop where
 hq:IntsAt ρ (.slice pq qs.length kq) qs
 hc:CtAt τ (.slice pc cs.length kc) cs
 hcap:cs.length≤kc
 lq:qs.length≤9223372036854775807
 lc:cs.length≤9223372036854775807
 hb:BkAt σ (.slice pb bs.length kb) bs
 lb:bs.length≤9223372036854775807
 hh:HdAt υ (.slice ph hs.length kh) hs
 lh:hs.length≤9223372036854775807
theorem TbAt.rq {ρ τ σ υ:PH} {pq pc pb ph:Option Addr} {kq kc kb kh:Nat} {qs:List Int} {cs:List Ct} {bs:List Bk} {hs:List Hd} (hT:TbAt ρ τ σ υ pq pc pb ph kq kc kb kh qs cs bs hs):RowsE Eng.encI 1 ρ pq qs:=by
 obtain ⟨_,_,e,h⟩:=hT.hq.val Eng.encI_len
 simp only [Value.slice.injEq] at e;rw [e.1]; exact h
theorem TbAt.rc {ρ τ σ υ:PH} {pq pc pb ph:Option Addr} {kq kc kb kh:Nat} {qs:List Int} {cs:List Ct} {bs:List Bk} {hs:List Hd} (hT:TbAt ρ τ σ υ pq pc pb ph kq kc kb kh qs cs bs hs):RowsE encC 7 τ pc cs:=by
 obtain ⟨_,_,e,h⟩:=hT.hc.val encC_len
 simp only [Value.slice.injEq] at e;rw [e.1]; exact h
theorem TbAt.rh {ρ τ σ υ:PH} {pq pc pb ph:Option Addr} {kq kc kb kh:Nat} {qs:List Int} {cs:List Ct} {bs:List Bk} {hs:List Hd} (hT:TbAt ρ τ σ υ pq pc pb ph kq kc kb kh qs cs bs hs):RowsE encH 5 υ ph hs:=by
 obtain ⟨_,_,e,h⟩:=hT.hh.val encH_len
 simp only [Value.slice.injEq] at e;rw [e.1]; exact h
theorem chkTab_spec {ρ τ σ υ:PH} {pq pc pb ph:Option Addr} {kq kc kb kh:Nat} {qs:List Int} {cs:List Ct} {bs:List Bk} {hs:List Hd} (hT:TbAt ρ τ σ υ pq pc pb ph kq kc kb kh qs cs bs hs) :
  Ans Tryz.prog (fv 11) [.agg #[.slice pq qs.length kq,.slice pc cs.length kc,.slice pb bs.length kb,.slice ph hs.length kh]] [ρ,τ,σ,υ] (fun r=>r=int (chkT qs cs bs hs)):=by
 refine spec_in (cap:=[]) Tryz.func11 rfl rfl Tryz.ntmps11 rfl envZ (fun N β=>?_)
 refine Aa ?_;refine BH (BO rfl) rfl rfl rfl ?_;rintro _ _ ⟨b1,rfl,rfl⟩;refine AW (ρ:=sng b1 _) takeZ ?_
 have ct:=rdB b1 29 [.slice pq qs.length kq,.slice pc cs.length kc,.slice pb bs.length kb,.slice ph hs.length kh]
 have ct0:=rdC ct 0
 have ct1:=rdC ct 1
 have ct2:=rdC ct 2
 have ct3:=rdC ct 3
 have ctp:=rdQ (xs:=[_,_]) ct
 refine Abl ?_;refine Aa ?_;refine Agh ?_;refine BC (planCheck_spec ρ τ pq pc kq kc qs cs hT.hq hT.hc hT.hcap hT.lq hT.lc) rfl rfl rdZ rfl rfl ?_;rintro _ rfl;unfold chkT
 by_cases h1:chkPl qs cs=0
 rotate_left
 ·rw [if_pos h1]
  generalize chkPl qs cs=z at h1
  refine Abr ?_;refine Afx ?_;refine Aca ?_;exact A3 ⟨rfl,rfl⟩
 rw [if_neg (fun h=>h h1),h1]
 refine Abr ?_;refine Aek ?_;refine Aa ?_;refine Agh ?_;refine Aad ?_;refine BC (bkCheck_spec ρ τ σ pq pc kq kc qs cs _ bs hT.hq hT.hc hT.hcap hT.lq hT.lc hT.hb hT.lb) rfl rfl rdZ rfl rfl ?_;rintro _ rfl
 by_cases h2:chkB qs cs bs=0
 rotate_left
 ·rw [if_pos h2]
  generalize chkB qs cs bs=z at h2
  refine Abr ?_;refine Afx ?_;refine Aca ?_;exact A3 ⟨rfl,rfl⟩
 rw [if_neg (fun h=>h h2),h2]
 refine Ahd ?_;refine Aa ?_;refine Agh ?_;refine Aad ?_;refine BC (check28_spec ρ τ υ pq pc kq kc qs cs _ hs hT.hq hT.hc hT.hcap hT.lq hT.lc hT.hh hT.lh) rfl rfl rdZ rfl rfl ?_;rintro _ rfl;refine Aaa ?_;exact A3 ⟨rfl,rfl⟩
theorem refChkTab_spec {ρ τ σ υ:PH} {pq pc pb ph:Option Addr} {kq kc kb kh:Nat} {qs:List Int} {cs:List Ct} {bs:List Bk} {hs:List Hd} (hT:TbAt ρ τ σ υ pq pc pb ph kq kc kb kh qs cs bs hs) :
  Ans Tryz.prog (fv 49) [.agg #[.slice pq qs.length kq,.slice pc cs.length kc,.slice pb bs.length kb,.slice ph hs.length kh]] [ρ,τ,σ,υ] (fun r=>r=int (chkT qs cs bs hs)):=by
 refine spec_in (cap:=[]) Tryz.func49 rfl rfl Tryz.ntmps49 rfl envZ (fun N β=>?_)
 refine Aa ?_;refine BH (BO rfl) rfl rfl rfl ?_;rintro _ _ ⟨b1,rfl,rfl⟩;refine AW (ρ:=sng b1 _) takeZ ?_
 have ct:=rdB b1 29 [.slice pq qs.length kq,.slice pc cs.length kc,.slice pb bs.length kb,.slice ph hs.length kh]
 have ct0:=rdC ct 0
 have ct1:=rdC ct 1
 have ct2:=rdC ct 2
 have ct3:=rdC ct 3
 have ctp:=rdQ (xs:=[_,_]) ct
 refine Abl ?_;refine Aa ?_;refine Agh ?_;refine BC (refPlanCheck_spec ρ τ pq pc kq kc qs cs hT.hq hT.hc hT.lq hT.lc) rfl rfl rdZ rfl rfl ?_;rintro _ rfl;unfold chkT
 by_cases h1:chkPl qs cs=0
 rotate_left
 ·rw [if_pos h1]
  generalize chkPl qs cs=z at h1
  refine Abr ?_;refine Afx ?_;refine Aca ?_;exact A3 ⟨rfl,rfl⟩
 rw [if_neg (fun h=>h h1),h1]
 refine Abr ?_;refine Aek ?_;refine Aa ?_;refine Agh ?_;refine Aad ?_;refine BC (refBkCheck_spec ρ τ σ pq pc kq kc qs cs _ bs hT.hq hT.hc hT.hcap hT.lq hT.lc hT.hb hT.lb) rfl rfl rdZ rfl rfl ?_;rintro _ rfl
 by_cases h2:chkB qs cs bs=0
 rotate_left
 ·rw [if_pos h2]
  generalize chkB qs cs bs=z at h2
  refine Abr ?_;refine Afx ?_;refine Aca ?_;exact A3 ⟨rfl,rfl⟩
 rw [if_neg (fun h=>h h2),h2]
 refine Ahd ?_;refine Aa ?_;refine Agh ?_;refine Aad ?_;refine BC (refCheck28_spec ρ τ υ pq pc kq kc qs cs _ hs hT.hq hT.hc hT.lq hT.lc hT.hh hT.lh) rfl rfl rdZ rfl rfl ?_;rintro _ rfl;refine Aaa ?_;exact A3 ⟨rfl,rfl⟩
theorem indexS_spec (ρ:PH) (Rs:List PH) (v fn:Value) (l:List (Int × Int)) (p:(Int × Int)→Bool) (hv:SlE encS 2 ρ v l) (hl:l.length≤9223372036854775807) (hfn:∀ (i:Nat) (x:(Int × Int)),l[i]?=some x→Ans Tryz.prog fn [.agg (encS x).toArray] Rs (fun r=>r=.bool (p x))) :
  Ans Tryz.prog (fv 134) [v,fn] (ρ::Rs) (fun r=>(∃ (i:Nat) (x:(Int × Int)),l[i]?=some x∧p x=true∧(∀ (j:Nat) (y:(Int × Int)),j<i→l[j]?=some y→p y=false)∧r=int i)∨((∀ x∈l,p x=false)∧r=int (-1))):=by
 obtain ⟨q,c,rfl,hr⟩:=hv.val encS_len
 refine spec_in (cap:=[]) Tryz.func134 rfl rfl Tryz.ntmps134 rfl envZ (fun N β=>?_)
 refine Ad6 ?_
 refine BA [0,1,7] (0:Nat) (fun k=>k≤l.length∧∀ (i:Nat) (x:(Int × Int)),i<k→l[i]?=some x→p x=false) (fun k=>[(8,int k)]) (fun _=>[]) (fun k=>l.length-k) pickZ ⟨by omega,fun i x h=>by omega⟩ covZ selZ ?_
 rintro k ⟨hk,hI⟩
 by_cases hlt:k<l.length
 ·have hx:=List.getElem?_eq_getElem hlt
  obtain ⟨b1,o1,rfl,hrd⟩:=hr k _ hx
  have hrd2:RdN ρ b1 (o1+k*2) (encS l[k]):=hrd
  have hf:=hfn k _ hx
  refine Ac6 ?_;refine Abr ?_;refine Aao ?_;refine Abm ?_
  refine BC hf rfl rfl (fun τ hτ=>.inl (by simp [hτ])) rfl rfl ?_
  rintro _ rfl
  cases hp:p l[k] with
  | true =>
   refine Aag ?_;refine Aca ?_;exact AO (res1 rfl rfl) rsubZ selZ ⟨rfl,.inl ⟨k,l[k],hx,hp,hI,rfl⟩⟩
  | false =>
   refine Aak ?_;refine Abf ?_
   refine AT (k+1) ⟨by omega,fun i x hi hix=>?_⟩ (by omega) covZ selZ
   by_cases e:i=k
   ·subst e; rw [hx] at hix; injection hix with hix; rw [← hix]; exact hp
   ·exact hI i x (by omega) hix
 ·refine AC ?_
  refine Afw ?_;refine Aai ?_
  refine AO (res1 rfl rfl) rsubZ selZ ⟨rfl,.inr ⟨fun x hx=>?_,rfl⟩⟩
  obtain ⟨i,hi,rfl⟩:=List.getElem_of_mem hx
  exact hI i _ (by omega) (List.getElem?_eq_getElem hi)
theorem contS_spec (ρ:PH) (Rs:List PH) (v fn:Value) (l:List (Int × Int)) (p:(Int × Int)→Bool) (hv:SlE encS 2 ρ v l) (hl:l.length≤9223372036854775807) (hfn:∀ (i:Nat) (x:(Int × Int)),l[i]?=some x→Ans Tryz.prog fn [.agg (encS x).toArray] Rs (fun r=>r=.bool (p x))) :
  Ans Tryz.prog (fv 81) [v,fn] (ρ::Rs) (fun r=>r=.bool (l.any p)):=by
 have hix:=indexS_spec ρ Rs v fn l p hv hl hfn
 obtain ⟨q,c,rfl,hr⟩:=hv.val encS_len
 refine spec_in (cap:=[]) Tryz.func81 rfl rfl Tryz.ntmps81 rfl envZ (fun N β=>?_)
 refine Aai ?_;refine Aay ?_
 refine BC hix rfl rfl (fun τ hτ=>.inl (List.mem_cons_of_mem _ hτ)) rfl rfl ?_
 rintro _ (⟨i,x,hi,hp,_,rfl⟩|⟨hall2,rfl⟩)
 ·have hfl:l.any p=true:=List.any_eq_true.2 ⟨x,List.mem_of_getElem? hi,hp⟩
  refine CX ?_;refine Aaa ?_
  exact AO (res1 rfl rfl) rsubZ selZ ⟨rfl,by rw [hfl]⟩
 ·have hfl:l.any p=false:=List.any_eq_false.2 (fun x hx=>by rw [hall2 x hx]; simp)
  refine BP ?_;refine Aaa ?_
  exact AO (res1 rfl rfl) rsubZ selZ ⟨rfl,by rw [hfl]⟩
theorem busy_spec (ρ:PH) (v:Value) (l:List Bk) (c:Int) (hv:BkAt ρ v l) (hl:l.length≤1000) :
  Makes Tryz.prog (fv 80) [v,int c] [ρ] (fun r σ=>OwnS 152 2 r (busyL l c).length ((busyL l c).flatMap encS) σ):=by
 obtain ⟨q,cc,rfl,hr⟩:=hv.val encB_len
 refine spec_in (cap:=[]) Tryz.func80 rfl rfl Tryz.ntmps80 rfl envZ (fun N β=>?_)
 refine BZ ?_;refine Agn ?_
 refine BA [1,8,9] (X:=Nat × (Value × PH)) (0,(.slice none 0 0,emp)) (fun x=>x.1≤l.length∧OwnS 152 2 x.2.1 (busyL (l.take x.1) c).length ((busyL (l.take x.1) c).flatMap encS) x.2.2) (fun x=>[(10,int x.1),(5,x.2.1)]) (fun x=>[x.2.2]) (fun x=>l.length-x.1) pickZ ⟨by dsimp only; omega,OwnS.nil _ _⟩ covZ selZ ?_
 rintro ⟨k,u,σ⟩ ⟨hk,hO⟩
 dsimp only at hk hO ⊢
 by_cases hlt:k<l.length
 ·have hx:=List.getElem?_eq_getElem hlt
  have hn:=busyL_next c hx
  have hrl:=busyL_len (l.take k) c
  rw [List.length_take,Nat.min_eq_left hk] at hrl
  obtain ⟨b1,o1,rfl,hRd1,g0,g1,g2,g3⟩:=bkRow hr hx
  generalize l[k]=x at hRd1 g0 g1 g2 g3 hn
  by_cases hc:x.c=c
  rotate_left
  ·rw [if_neg hc,List.append_nil] at hn
   refine Ac4 ?_;refine A4 ?_; rintro _ _ ⟨b,rfl,rfl⟩;refine AY ?_; rintro _ _ ⟨rfl,rfl⟩;refine AE ?_;refine Af3 ?_;refine Abf ?_
   exact AT (k+1,(u,σ)) ⟨by dsimp only; omega,by dsimp only; rw [hn]; exact hO⟩ (by dsimp only; omega) covZ selZ
  ·rw [if_pos hc] at hn
   refine Ac4 ?_;refine A4 ?_; rintro _ _ ⟨b,rfl,rfl⟩;refine AY ?_; rintro _ _ ⟨rfl,rfl⟩;refine AE ?_;refine Aey ?_;refine Aag ?_;refine AA ?_;refine Abj ?_;refine BY ?_;refine AZ ?_; rintro _ _ ⟨b,rfl,rfl⟩
   refine BH (BI (by_:=16) (s:=2) (news:=[int x.a,int x.b]) rfl rfl rfl rfl rfl rfl rfl hO takeZ (cells_own memZ) rfl oneZ (by omega) (by simp only [maxLen]; omega) (by omega)) rfl rfl rfl ?_
   rintro u1 _ ⟨σ1,hO1,rfl⟩;refine Af4 ?_
   refine AT (k+1,(u1,σ1)) ⟨by dsimp only; omega,?_⟩ (by dsimp only; omega) covZ selZ
   dsimp only
   rw [hn,List.length_append,List.flatMap_append];exact hO1
 ·have hke:k=l.length:=by omega
  subst hke;rw [List.take_length] at hO;refine Ago ?_;exact AO (res1 rfl rfl) rsubZ selZ ⟨σ,hO,rfl⟩
theorem refBusy_spec (ρ:PH) (v:Value) (l:List Bk) (c:Int) (hv:BkAt ρ v l) (hl:l.length≤1000) :
  Makes Tryz.prog (fv 113) [v,int c] [ρ] (fun r σ=>OwnS 152 2 r (busyL l c).length ((busyL l c).flatMap encS) σ):=by
 obtain ⟨q,cc,rfl,hr⟩:=hv.val encB_len
 refine spec_in (cap:=[]) Tryz.func113 rfl rfl Tryz.ntmps113 rfl envZ (fun N β=>?_)
 refine BZ ?_;refine Aai ?_;refine Af5 ?_
 refine BA [0,1] (X:=Nat × (Value × PH)) (0,(.slice none 0 0,emp)) (fun x=>x.1≤l.length∧OwnS 152 2 x.2.1 (busyL (l.take x.1) c).length ((busyL (l.take x.1) c).flatMap encS) x.2.2) (fun x=>[(6,int x.1),(5,x.2.1)]) (fun x=>[x.2.2]) (fun x=>l.length-x.1) pickZ ⟨by dsimp only; omega,OwnS.nil _ _⟩ covZ selZ ?_
 rintro ⟨k,u,σ⟩ ⟨hk,hO⟩
 dsimp only at hk hO ⊢
 by_cases hlt:k<l.length
 ·have hx:=List.getElem?_eq_getElem hlt
  have hn:=busyL_next c hx
  have hrl:=busyL_len (l.take k) c
  rw [List.length_take,Nat.min_eq_left hk] at hrl
  obtain ⟨b1,o1,rfl,hRd1,g0,g1,g2,g3⟩:=bkRow hr hx
  generalize l[k]=x at hRd1 g0 g1 g2 g3 hn
  by_cases hc:x.c=c
  rotate_left
  ·rw [if_neg hc,List.append_nil] at hn
   refine Af6 ?_;refine Adu ?_;refine Aa2 ?_
   exact AT (k+1,(u,σ)) ⟨by dsimp only; omega,by dsimp only; rw [hn]; exact hO⟩ (by dsimp only; omega) covZ selZ
  ·rw [if_pos hc] at hn
   refine Af6 ?_;refine Ag1 ?_
   refine A6 (.q 0 (.q 1 (.q 2 (.q 3 (.q 4 (.q 5 (.q 6 (.q 7 (.q 8 (.q 9 (.q 10 (.q 11 (.l 12 .e (.l 13 .b (.l 14 .b .nil))))))))))))))) [] rfl (by kernel_rfl) Sel.nil ?_
   refine Ad1 ?_;refine Ado ?_;refine CV ?_;refine BF ?_; rintro _ _ ⟨b,rfl,rfl⟩
   revert b; intro bn
   refine CF (a_b rfl (BI (by_:=16) (s:=2) (news:=[int x.a,int x.b]) rfl rfl rfl rfl rfl rfl rfl hO takeZ (cells_own memZ) rfl oneZ (by omega) (by simp only [maxLen]; omega) (by omega)) rfl rfl rfl (fun _ _ _ w hw=>hw.sel Sel.nil) ?_)
   rintro u1 _ ⟨σ1,hO1,rfl⟩;refine Agy ?_;refine Aa2 ?_
   refine AT (k+1,(u1,σ1)) ⟨by dsimp only; omega,?_⟩ (by dsimp only; omega) covZ selZ
   dsimp only
   rw [hn,List.length_append,List.flatMap_append];exact hO1
 ·have hke:k=l.length:=by omega
  subst hke;rw [List.take_length] at hO;refine Aci ?_;refine Aca ?_;exact AO (res1 rfl rfl) rsubZ selZ ⟨σ,hO,rfl⟩
theorem any_take {α:Type} (p:α→Bool) {l:List α} {k:Nat} (h:k<l.length):(l.take (k+1)).any p=((l.take k).any p || p l[k]):=by
 rw [List.take_succ_eq_append_getElem h,List.any_append]
 simp
end Go.Proofs.YtjehnjhkcmobcaaGreat
namespace Go.Step
structure Dm where
  s:Int
  d:Int
  v:Int
  r:Int
  e:Int
deriving DecidableEq
structure Sh where
  c:Int
  t:Int
  n:Int
deriving DecidableEq
def okDm (nq:Nat) (d:Dm):Prop:=(0≤d.s∧d.s<nq)∧(0≤d.d∧d.d<nq)∧d.s≠d.d∧(1≤d.v∧d.v≤1099511627776)∧(0≤d.r∧d.r<d.e∧d.e≤1099511627776∧d.e-d.r≤100)
instance (nq:Nat) (d:Dm):Decidable (okDm nq d):=inferInstanceAs (Decidable (_∧_))
def validT (qs:List Int) (cs:List Ct) (bs:List Bk) (hs:List Hd) (d:Dm):Bool:=decide (chkT qs cs bs hs=0∧okDm qs.length d)
def sameSl (x y:Sh):Bool:=decide (x.c=y.c∧x.t=y.t)
def ctOf (cs:List Ct) (x:Sh):Ct:=cs.getD x.c.toNat ⟨0,0,0,0,0,0,0⟩
def arrOf (cs:List Ct) (x:Sh):Int:=x.t+1+(ctOf cs x).g
def roomT (qs:List Int) (hs:List Hd) (d:Dm) (n t:Int):Int:=if n=d.s∨n=d.d then 1099511627776 else qs.getD n.toNat 0-stored hs n t
end Go.Step
namespace Go.Step
end Go.Step
namespace Go.Step
def okSp (x:Int × Int):Prop:=x.1<x.2 ∧ -1152921504606846976≤x.1∧x.2≤1152921504606846976
instance (x:Int × Int):Decidable (okSp x):=inferInstanceAs (Decidable (_∧_))
def spE (l:List (Int × Int)) (i:Nat):Int:=match l[i]? with
  | some x=>if ¬ okSp x then 2 else if 0<i∧x.1≤(l.getD (i-1) x).2 then 9 else 0
  | none=>0
theorem spE_at {l:List (Int × Int)} {i:Nat} {x:Int × Int} (e:l[i]?=some x):spE l i=if ¬ okSp x then 2 else if 0<i∧x.1≤(l.getD (i-1) x).2 then 9 else 0:=by unfold spE; rw [e]
def chkI (l:List (Int × Int)):Int:=if 1000<l.length then 4 else firstE (spE l) l.length
def inSp (t:Int) (x:Int × Int):Bool:=decide (x.1≤t) && decide (t<x.2)
def hasI (l:List (Int × Int)) (t:Int):Bool:=decide (chkI l=0) && l.any (inSp t)
end Go.Step
namespace Go.Proofs.YtjehnjhkcmobcaaGreat
open Go.Eng Go.Step
set_option maxRecDepth 100000
set_option maxHeartbeats 64000000
theorem ivValid_spec (x:Int × Int):Ans Tryz.prog (fv 205) [.agg #[int x.1,int x.2]] [] (fun r=>r=.bool (decide (okSp x))):=by
 refine spec_in (cap:=[]) Tryz.func205 rfl rfl Tryz.ntmps205 rfl envZ (fun N β=>?_)
 by_cases h1:x.1<x.2
 ·by_cases h2:-1152921504606846976≤x.1
  ·by_cases h3:x.2≤1152921504606846976
   ·rw [decide_eq_true (show okSp x from ⟨h1,h2,h3⟩)]
    refine Aa ?_;refine CO ?_; rintro _ _ ⟨b,rfl,rfl⟩;refine Aef ?_;refine BD ?_;refine Aaj ?_;refine CX ?_;refine Adw ?_;refine C9 ?_;refine Acs ?_;exact A3 ⟨rfl,rfl⟩
   ·rw [decide_eq_false (fun h:okSp x=>h3 h.2.2)]
    refine Aa ?_;refine CO ?_; rintro _ _ ⟨b,rfl,rfl⟩;refine Aef ?_;refine BD ?_;refine Aaj ?_;refine CX ?_;refine Adw ?_;refine DB ?_;refine Acs ?_;exact A3 ⟨rfl,rfl⟩
  ·rw [decide_eq_false (fun h:okSp x=>h2 h.2.1)]
   refine Aa ?_;refine CO ?_; rintro _ _ ⟨b,rfl,rfl⟩;refine Aef ?_;refine BD ?_;refine Aaj ?_;refine BP ?_;refine AR ?_;refine Aeh ?_;refine Aaa ?_;exact A3 ⟨rfl,rfl⟩
 ·rw [decide_eq_false (fun h:okSp x=>h1 h.1)]
  refine Aa ?_;refine CO ?_; rintro _ _ ⟨b,rfl,rfl⟩;refine Aef ?_;refine A0 ?_;refine Aeh ?_;refine Aeh ?_;refine Aaa ?_;exact A3 ⟨rfl,rfl⟩
theorem refIvValid_spec (x:Int × Int):Ans Tryz.prog (fv 200) [.agg #[int x.1,int x.2]] [] (fun r=>r=.bool (decide (okSp x))):=by
 refine spec_in (cap:=[]) Tryz.func200 rfl rfl Tryz.ntmps200 rfl envZ (fun N β=>?_)
 by_cases h1:x.1<x.2
 ·by_cases h2:-1152921504606846976≤x.1
  ·by_cases h3:x.2≤1152921504606846976
   ·rw [decide_eq_true (show okSp x from ⟨h1,h2,h3⟩)]
    refine Aa ?_;refine CO ?_; rintro _ _ ⟨b,rfl,rfl⟩;refine Aef ?_;refine BD ?_;refine Aaj ?_;refine CX ?_;refine Adw ?_;refine C9 ?_;refine Acs ?_;exact A3 ⟨rfl,rfl⟩
   ·rw [decide_eq_false (fun h:okSp x=>h3 h.2.2)]
    refine Aa ?_;refine CO ?_; rintro _ _ ⟨b,rfl,rfl⟩;refine Aef ?_;refine BD ?_;refine Aaj ?_;refine CX ?_;refine Adw ?_;refine DB ?_;refine Acs ?_;exact A3 ⟨rfl,rfl⟩
  ·rw [decide_eq_false (fun h:okSp x=>h2 h.2.1)]
   refine Aa ?_;refine CO ?_; rintro _ _ ⟨b,rfl,rfl⟩;refine Aef ?_;refine BD ?_;refine Aaj ?_;refine BP ?_;refine AR ?_;refine Aeh ?_;refine Aaa ?_;exact A3 ⟨rfl,rfl⟩
 ·rw [decide_eq_false (fun h:okSp x=>h1 h.1)]
  refine Aa ?_;refine CO ?_; rintro _ _ ⟨b,rfl,rfl⟩;refine Aef ?_;refine A0 ?_;refine Aeh ?_;refine Aeh ?_;refine Aaa ?_;exact A3 ⟨rfl,rfl⟩
theorem ivCheck_spec (ρ:PH) (v:Value) (l:List (Int × Int)) (hv:SpAt ρ v l) (hl:l.length≤9223372036854775807) :
  Ans Tryz.prog (fv 175) [v] [ρ] (fun r=>r=int (chkI l)):=by
 obtain ⟨q,c,rfl,hr⟩:=hv.val encS_len
 refine spec_in (cap:=[]) Tryz.func175 rfl rfl Tryz.ntmps175 rfl envZ (fun N β=>?_)
 unfold chkI
 by_cases hbig:1000<l.length
 ·rw [if_pos hbig]
  refine Aai ?_;refine Abg ?_;refine CT ?_;refine Aba ?_;exact A3 ⟨rfl,rfl⟩
 rw [if_neg hbig];refine Aai ?_;refine Abg ?_;refine Af ?_;refine Acm ?_
 refine BA [0,8,9] (0:Nat) (fun k=>k≤l.length∧firstE (spE l) k=0) (fun k=>[(10,int k)]) (fun _=>[]) (fun k=>l.length-k) pickZ ⟨by omega,rfl⟩ covZ selZ ?_
 rintro k ⟨hk,hI⟩
 by_cases hlt:k<l.length
 ·have hx:=List.getElem?_eq_getElem hlt
  obtain ⟨b4,o4,rfl,hrd,g0,g1⟩:=spRow hr hx
  have hE:=spE_at hx
  generalize l[k]=x at hrd g0 g1 hE
  refine Afb ?_;refine A4 ?_; rintro _ _ ⟨b,rfl,rfl⟩;refine AD ?_;refine AY ?_; rintro _ _ ⟨rfl,rfl⟩;refine Aat ?_;refine Abt ?_
  revert b; intro b6
  refine BC (ivValid_spec x) rfl rfl rdZ rfl rfl ?_;rintro _ rfl
  by_cases hok:okSp x
  rotate_left
  ·rw [if_pos hok] at hE
   have hh:=firstE_hit hI (by rw [hE]; decide) _ hlt
   rw [hh,hE,decide_eq_false hok];refine BN ?_;refine Aba ?_;exact A3 ⟨rfl,rfl⟩
  rw [if_neg (fun h=>h hok)] at hE
  rw [decide_eq_true hok];refine Acw ?_;refine AC ?_
  refine A6 P3Z [sng b6 _] rfl (by kernel_rfl) selZ ?_
  by_cases h0:k=0
  ·subst h0
   rw [if_neg (by omega)] at hE
   refine AI ?_;refine DL ?_;refine Ac2 ?_;refine Ad ?_;refine Ab8 ?_;refine Abf ?_
   exact AT (0+1) ⟨by omega,firstE_ok hI hE⟩ (by omega) covZ selZ
  ·have hx':=List.getElem?_eq_getElem (show k-1<l.length by omega)
   obtain ⟨_,_,e,_,p0,p1⟩:=spRow hr hx'
   simp only [Option.some.injEq,Addr.mk.injEq,and_true] at e
   obtain ⟨rfl,rfl⟩:=e
   rw [List.getD_eq_getElem?_getD,hx',Option.getD_some] at hE
   generalize l[k-1]=p at p0 p1 hE
   by_cases h9:x.1≤p.2
   ·rw [if_pos ⟨by omega,h9⟩] at hE
    have hh:=firstE_hit hI (by rw [hE]; decide) _ hlt
    rw [hh,hE];refine Afk ?_;refine Afy ?_;refine Ag ?_;refine ES ?_;refine Agr ?_;exact A3 ⟨rfl,rfl⟩
   ·rw [if_neg (fun h=>h9 h.2)] at hE
    refine Afk ?_;refine Afy ?_;refine Ag ?_;refine DZ ?_;refine Agl ?_;refine Abf ?_
    exact AT (k+1) ⟨by omega,firstE_ok hI hE⟩ (by omega) covZ selZ
 have hke:k=l.length:=by omega
 subst hke;rw [hI];refine Acd ?_;refine Aai ?_;exact A3 ⟨rfl,rfl⟩
theorem refIvCheck_spec (ρ:PH) (v:Value) (l:List (Int × Int)) (hv:SpAt ρ v l) (hl:l.length≤9223372036854775807) :
  Ans Tryz.prog (fv 225) [v] [ρ] (fun r=>r=int (chkI l)):=by
 obtain ⟨q,c,rfl,hr⟩:=hv.val encS_len
 refine spec_in (cap:=[]) Tryz.func225 rfl rfl Tryz.ntmps225 rfl envZ (fun N β=>?_)
 unfold chkI
 by_cases hbig:1000<l.length
 ·rw [if_pos hbig]
  refine Aai ?_;refine Abg ?_;refine CT ?_;refine Aba ?_;exact A3 ⟨rfl,rfl⟩
 rw [if_neg hbig];refine Aai ?_;refine Abg ?_;refine Af ?_;refine Acv ?_
 refine BA [0] (0:Nat) (fun k=>k≤l.length∧firstE (spE l) k=0) (fun k=>[(3,int k)]) (fun _=>[]) (fun k=>l.length-k) pickZ ⟨by omega,rfl⟩ covZ selZ ?_
 rintro k ⟨hk,hI⟩
 by_cases hlt:k<l.length
 ·have hx:=List.getElem?_eq_getElem hlt
  obtain ⟨b4,o4,rfl,hrd,g0,g1⟩:=spRow hr hx
  have hE:=spE_at hx
  generalize l[k]=x at hrd g0 g1 hE
  refine Abo ?_;refine Aav ?_;refine Abm ?_;refine BC (refIvValid_spec x) rfl rfl rdZ rfl rfl ?_;rintro _ rfl
  by_cases hok:okSp x
  rotate_left
  ·rw [if_pos hok] at hE
   have hh:=firstE_hit hI (by rw [hE]; decide) _ hlt
   rw [hh,hE,decide_eq_false hok];refine BN ?_;refine Aba ?_;exact A3 ⟨rfl,rfl⟩
  rw [if_neg (fun h=>h hok)] at hE
  rw [decide_eq_true hok];refine Acw ?_;refine AC ?_
  refine A6 P2Z [] rfl (by kernel_rfl) selZ ?_
  by_cases h0:k=0
  ·subst h0
   rw [if_neg (by omega)] at hE
   refine AI ?_;refine DL ?_;refine Ac2 ?_;refine Abb ?_;refine BM ?_;refine Aee ?_
   exact AT (0+1) ⟨by omega,firstE_ok hI hE⟩ (by omega) covZ selZ
  ·have hx':=List.getElem?_eq_getElem (show k-1<l.length by omega)
   obtain ⟨_,_,e,_,p0,p1⟩:=spRow hr hx'
   simp only [Option.some.injEq,Addr.mk.injEq,and_true] at e
   obtain ⟨rfl,rfl⟩:=e
   rw [List.getD_eq_getElem?_getD,hx',Option.getD_some] at hE
   generalize l[k-1]=p at p0 p1 hE
   by_cases h9:x.1≤p.2
   ·rw [if_pos ⟨by omega,h9⟩] at hE
    have hh:=firstE_hit hI (by rw [hE]; decide) _ hlt
    rw [hh,hE];refine Afk ?_;refine Agj ?_;refine Ag ?_;refine ES ?_;refine Agr ?_;exact A3 ⟨rfl,rfl⟩
   ·rw [if_neg (fun h=>h9 h.2)] at hE
    refine Afk ?_;refine Agj ?_;refine Ag ?_;refine DZ ?_;refine BG ?_;refine Aee ?_
    exact AT (k+1) ⟨by omega,firstE_ok hI hE⟩ (by omega) covZ selZ
 have hke:k=l.length:=by omega
 subst hke;rw [hI];refine Aha ?_;exact A3 ⟨rfl,rfl⟩
theorem refHas_spec (ρ:PH) (v:Value) (l:List (Int × Int)) (t:Int) (hv:SpAt ρ v l) (hl:l.length≤9223372036854775807) :
  Ans Tryz.prog (fv 204) [v,int t] [ρ] (fun r=>r=.bool (hasI l t)):=by
 have hv2:=hv
 obtain ⟨q,c,rfl,hr⟩:=hv.val encS_len
 refine spec_in (cap:=[]) Tryz.func204 rfl rfl Tryz.ntmps204 rfl envZ (fun N β=>?_)
 refine Aff ?_;refine BC (refIvCheck_spec ρ _ l hv2 hl) rfl rfl rdZ rfl rfl ?_;rintro _ rfl;unfold hasI
 by_cases h0:chkI l=0
 rotate_left
 ·rw [decide_eq_false h0,Bool.false_and]
  generalize chkI l=z at h0
  refine CJ ?_;refine Aba ?_;exact A3 ⟨rfl,rfl⟩
 rw [decide_eq_true h0,Bool.true_and,h0];refine Abh ?_;refine Acv ?_
 refine BA [0,1] (0:Nat) (fun k=>k≤l.length∧(l.take k).any (inSp t)=false) (fun k=>[(5,int k)]) (fun _=>[]) (fun k=>l.length-k) pickZ ⟨by omega,by simp⟩ covZ selZ ?_
 rintro k ⟨hk,hI⟩
 by_cases hlt:k<l.length
 ·have hn:=any_take (inSp t) hlt
  have hmem:=List.getElem_mem hlt
  obtain ⟨b4,o4,rfl,hrd,g0,g1⟩:=spRow hr (List.getElem?_eq_getElem hlt)
  rw [hI,Bool.false_or] at hn
  generalize l[k]=x at hrd g0 g1 hn hmem
  by_cases h1:x.1≤t
  ·by_cases h2:t<x.2
   ·have hall:l.any (inSp t)=true:=List.any_eq_true.2 ⟨x,hmem,by simp [inSp,h1,h2]⟩
    rw [hall];refine Af6 ?_;refine C9 ?_;refine Agp ?_;refine BD ?_;refine AR ?_;refine Aba ?_;exact A3 ⟨rfl,rfl⟩
   ·rw [show inSp t x=false by simp [inSp,h2]] at hn
    refine Af6 ?_;refine C9 ?_;refine Agp ?_;refine A0 ?_;refine Agq ?_
    exact AT (k+1) ⟨by omega,hn⟩ (by omega) covZ selZ
  ·rw [show inSp t x=false by simp [inSp,h1]] at hn
   refine Af6 ?_;refine DB ?_;refine Abs ?_;refine Afs ?_
   exact AT (k+1) ⟨by omega,hn⟩ (by omega) covZ selZ
 have hke:k=l.length:=by omega
 subst hke;rw [List.take_length] at hI;rw [hI];refine Aha ?_;exact A3 ⟨rfl,rfl⟩
theorem chkPl_ct {qs:List Int} {cs:List Ct} (h:chkPl qs cs=0):cs.length≤64∧∀ c∈cs,chkCt c=0∧c.f<qs.length∧c.t<qs.length:=by
 unfold chkPl at h
 by_cases h1:qs.length<1∨16<qs.length∨64<cs.length
 ·rw [if_pos h1] at h; omega
 rw [if_neg h1] at h
 by_cases h2:firstE (quoE qs) qs.length=0
 ·rw [if_neg (by simpa using h2)] at h
  refine ⟨by omega,fun c hc=>?_⟩
  obtain ⟨i,hi,rfl⟩:=List.getElem_of_mem hc
  have h3:=firstE_zero h i hi
  rw [ctE_at (List.getElem?_eq_getElem hi)] at h3
  by_cases h4:chkCt cs[i]=0
  ·rw [if_neg (by simpa using h4)] at h3
   by_cases h5:(qs.length:Int)≤cs[i].f∨(qs.length:Int)≤cs[i].t
   ·rw [if_pos h5] at h3; omega
   ·exact ⟨h4,by omega,by omega⟩
  ·rw [if_pos h4] at h3; exact absurd h3 h4
 ·rw [if_pos h2] at h; exact absurd h h2
theorem chkCt_all {c:Ct} (h:chkCt c=0):(0≤c.f∧c.f≤15)∧(0≤c.t∧c.t≤15)∧(0≤c.s∧c.s<c.e∧c.e≤1099511627776)∧(1≤c.r∧c.r≤1000)∧(1≤c.g∧c.g≤1048576):=by
 have h2:=chkCt_se h
 unfold chkCt at h
 by_cases h1:okCt c
 ·unfold okCt at h1
  exact ⟨h1.1,h1.2.1,h2,h1.2.2.1,h1.2.2.2.1⟩
 ·rw [if_pos h1] at h; omega
def encX (x:Sh):List Value:=[int x.c,int x.t,int x.n]
theorem encX_len (x:Sh):(encX x).length=3:=rfl
abbrev ShAt (ρ:PH) (v:Value) (l:List Sh):Prop:=SlE encX 3 ρ v l
theorem shRow {ρ:PH} {p:Option Addr} {l:List Sh} (h:RowsE encX 3 ρ p l) {i:Nat} {x:Sh} (hx:l[i]?=some x) :
  ∃ b o,p=some ⟨b,o,none⟩∧RdN ρ b (o+i*3) [int x.c,int x.t,int x.n]∧rdc ρ b (o+i*3)=some (int x.c)∧rdc ρ b (o+i*3+1)=some (int x.t)∧rdc ρ b (o+i*3+2)=some (int x.n):=by
 obtain ⟨b,o,e,hr⟩:=h i x hx
 exact ⟨b,o,e,hr,hr.get0,hr.get (j:=1) rfl,hr.get (j:=2) rfl⟩
end Go.Proofs.YtjehnjhkcmobcaaGreat
namespace Go.Step
abbrev Cu:=List (List (Int × Int))
def cuAt (c:Cu) (n:Int):List (Int × Int):=c.getD n.toNat []
def sumT (f:Int→Int) (a:Int):Nat→Int
  | 0=>0
  | m+1=>sumT f a m+f (a+m)
theorem sumT_congr {f g:Int→Int} {a:Int}:∀ {m:Nat},(∀ k:Nat,k<m→f (a+k)=g (a+k))→sumT f a m=sumT g a m
  | 0,_=>rfl
  | m+1,h=>by rw [sumT,sumT,sumT_congr (m:=m) (fun k hk=>h k (Nat.lt_succ_of_lt hk)),h m (Nat.lt_succ_self m)]
def sumU (f:Int→Int) (a t:Int):Int:=sumT f a (t-a).toNat
end Go.Step
namespace Go.Proofs.YtjehnjhkcmobcaaGreat
open Go.Eng Go.Step
set_option maxRecDepth 100000
set_option maxHeartbeats 64000000
def CutRow (ρ κ:PH) (p:Option Addr) (c:Cu):Prop:=∀ (i:Nat) (l:List (Int × Int)),c[i]?=some l→∃ b o q k,p=some ⟨b,o,none⟩∧rdc ρ b (o+i)=some (.slice q l.length k)∧SpAt κ (.slice q l.length k) l∧l.length≤9223372036854775807
end Go.Proofs.YtjehnjhkcmobcaaGreat
namespace Go.Eng
open Go.ChangeShapes Go.WideShapes Go.RowKit
variable {P:Program} {W:World} {t:TypeId}
theorem RdT.capOK {e:TypeId} {v:Value} (ht:P.underlying t=some (.slice e)) (h:RdT P W t [v]):CapOK v:=by
  obtain ⟨H,enc,fuel,x,h⟩:=h
  rcases Deep.open_slice ht h with ⟨e,_⟩|⟨a,len,cap,m,n,D,Pl,e,_,hlc,_⟩
  · simp only [List.cons.injEq,and_true] at e
    exact ⟨_,_,_,e,Nat.le_refl _⟩
  · simp only [List.cons.injEq,and_true] at e
    exact ⟨_,_,_,e,hlc⟩
end Go.Eng
namespace Go.Proofs.YtjehnjhkcmobcaaGreat
open Go.Eng Go.Step
set_option maxRecDepth 100000
set_option maxHeartbeats 64000000
open Go.ChangeShapes Go.WideShapes Go.ChangeAt Go.RowKit
theorem Tryz.own:ownKnob Tryz.prog.godebug=none:=by kernel_rfl
theorem Tryz.laidOut:laidOutB Tryz.prog=true:=by kernel_rfl
theorem ct_of {W:World} {x:List Value} (h:RdT Tryz.prog W 114 x):∃ a:Ct,x=encC a∧True:=by
 obtain ⟨h1,_⟩:=h.struct Tryz.underlying114
 have hc:Tryz.prog.cellsOf 114=7:=by kernel_rfl
 rw [hc] at h1
 match x,h1 with
 | [c0,c1,c2,c3,c4,c5,c6],_ =>
  have k:Tryz.prog.cellsOf 3=1:=by kernel_rfl
  obtain ⟨x0,e0,_⟩:=(h.fld1 Tryz.underlying114 0 rfl rfl rfl k rfl).i64 Tryz.underlying3
  obtain ⟨x1,e1,_⟩:=(h.fld1 Tryz.underlying114 1 rfl rfl rfl k rfl).i64 Tryz.underlying3
  obtain ⟨x2,e2,_⟩:=(h.fld1 Tryz.underlying114 2 rfl rfl rfl k rfl).i64 Tryz.underlying3
  obtain ⟨x3,e3,_⟩:=(h.fld1 Tryz.underlying114 3 rfl rfl rfl k rfl).i64 Tryz.underlying3
  obtain ⟨x4,e4,_⟩:=(h.fld1 Tryz.underlying114 4 rfl rfl rfl k rfl).i64 Tryz.underlying3
  obtain ⟨x5,e5,_⟩:=(h.fld1 Tryz.underlying114 5 rfl rfl rfl k rfl).i64 Tryz.underlying3
  obtain ⟨x6,e6,_⟩:=(h.fld1 Tryz.underlying114 6 rfl rfl rfl k rfl).i64 Tryz.underlying3
  simp at e0 e1 e2 e3 e4 e5 e6
  subst e0 e1 e2 e3 e4 e5 e6;exact ⟨⟨x0,x1,x2,x3,x4,x5,x6⟩,rfl,trivial⟩
theorem bk_of {W:World} {x:List Value} (h:RdT Tryz.prog W 95 x):∃ a:Bk,x=encB a∧True:=by
 obtain ⟨h1,_⟩:=h.struct Tryz.underlying95
 have hc:Tryz.prog.cellsOf 95=4:=by kernel_rfl
 rw [hc] at h1
 match x,h1 with
 | [c0,c1,c2,c3],_ =>
  have k:Tryz.prog.cellsOf 3=1:=by kernel_rfl
  obtain ⟨x0,e0,_⟩:=(h.fld1 Tryz.underlying95 0 rfl rfl rfl k rfl).i64 Tryz.underlying3
  obtain ⟨x1,e1,_⟩:=(h.fld1 Tryz.underlying95 1 rfl rfl rfl k rfl).i64 Tryz.underlying3
  obtain ⟨x2,e2,_⟩:=(h.fld1 Tryz.underlying95 2 rfl rfl rfl k rfl).i64 Tryz.underlying3
  obtain ⟨x3,e3,_⟩:=(h.fld1 Tryz.underlying95 3 rfl rfl rfl k rfl).i64 Tryz.underlying3
  simp at e0 e1 e2 e3
  subst e0 e1 e2 e3;exact ⟨⟨x0,x1,x2,x3⟩,rfl,trivial⟩
theorem hd_of {W:World} {x:List Value} (h:RdT Tryz.prog W 99 x):∃ a:Hd,x=encH a∧True:=by
 obtain ⟨h1,_⟩:=h.struct Tryz.underlying99
 have hc:Tryz.prog.cellsOf 99=5:=by kernel_rfl
 rw [hc] at h1
 match x,h1 with
 | [c0,c1,c2,c3,c4],_ =>
  have k:Tryz.prog.cellsOf 3=1:=by kernel_rfl
  obtain ⟨x0,e0,_⟩:=(h.fld1 Tryz.underlying99 0 rfl rfl rfl k rfl).i64 Tryz.underlying3
  obtain ⟨x1,e1,_⟩:=(h.fld1 Tryz.underlying99 1 rfl rfl rfl k rfl).i64 Tryz.underlying3
  obtain ⟨x2,e2,_⟩:=(h.fld1 Tryz.underlying99 2 rfl rfl rfl k rfl).i64 Tryz.underlying3
  obtain ⟨x3,e3,_⟩:=(h.fld1 Tryz.underlying99 3 rfl rfl rfl k rfl).i64 Tryz.underlying3
  obtain ⟨x4,e4,_⟩:=(h.fld1 Tryz.underlying99 4 rfl rfl rfl k rfl).i64 Tryz.underlying3
  simp at e0 e1 e2 e3 e4
  subst e0 e1 e2 e3 e4;exact ⟨⟨x0,x1,x2,x3,x4⟩,rfl,trivial⟩
theorem sh_of {W:World} {x:List Value} (h:RdT Tryz.prog W 62 x):∃ a:Sh,x=encX a∧True:=by
 obtain ⟨h1,_⟩:=h.struct Tryz.underlying62
 have hc:Tryz.prog.cellsOf 62=3:=by kernel_rfl
 rw [hc] at h1
 match x,h1 with
 | [c0,c1,c2],_ =>
  have k:Tryz.prog.cellsOf 3=1:=by kernel_rfl
  obtain ⟨x0,e0,_⟩:=(h.fld1 Tryz.underlying62 0 rfl rfl rfl k rfl).i64 Tryz.underlying3
  obtain ⟨x1,e1,_⟩:=(h.fld1 Tryz.underlying62 1 rfl rfl rfl k rfl).i64 Tryz.underlying3
  obtain ⟨x2,e2,_⟩:=(h.fld1 Tryz.underlying62 2 rfl rfl rfl k rfl).i64 Tryz.underlying3
  simp at e0 e1 e2
  subst e0 e1 e2;exact ⟨⟨x0,x1,x2⟩,rfl,trivial⟩
theorem ships_of {W:World} {r:Reach} {base:Nat} {v0:Value} (hv:Value.okWide Tryz.prog W r base 38 v0) (h:RdT Tryz.prog W 38 v0.cells.toList):∃ l:List Sh,ShAt (heapPH W) v0 l∧CapOK v0∧l.length≤9223372036854775807:=by
 obtain ⟨a,len,cap,rfl⟩:=okWide_slice Tryz.underlying38 hv
 have h':RdT Tryz.prog W 38 [Value.slice a len cap]:=h
 obtain ⟨v,e,l,h1,h2,h3⟩:=h'.sliceE Tryz.underlying38 (s:=3) (by kernel_rfl) (by omega) (fun x hx=>sh_of hx)
 simp only [List.cons.injEq,and_true] at e;subst e
 exact ⟨l,h1,h'.capOK Tryz.underlying38,by simp only [maxLen] at h3; omega⟩
theorem int_of {W:World} {x:List Value} (h:RdT Tryz.prog W 3 x):∃ a:Int,x=Eng.encI a∧True:=by
 obtain ⟨a,e,_⟩:=h.i64 Tryz.underlying3
 exact ⟨a,e,trivial⟩
theorem tables_of {W:World} {r:Reach} {base:Nat} {v0:Value} (hv:Value.okWide Tryz.prog W r base 29 v0) (h:RdT Tryz.prog W 29 v0.cells.toList) :
  ∃ (pq pc pb ph:Option Addr) (kq kc kb kh:Nat) (qs:List Int) (cs:List Ct) (bs:List Bk) (hs:List Hd),v0=.agg #[.slice pq qs.length kq,.slice pc cs.length kc,.slice pb bs.length kb,.slice ph hs.length kh]∧TbAt (heapPH W) (heapPH W) (heapPH W) (heapPH W) pq pc pb ph kq kc kb kh qs cs bs hs:=by
 obtain ⟨cs,rfl⟩:=okWide_agg Tryz.underlying29 hv
 obtain ⟨h1,hf⟩:=h.struct Tryz.underlying29
 have hc:Tryz.prog.cellsOf 29=4:=by kernel_rfl
 rw [hc] at h1
 obtain ⟨x⟩:=cs
 match x,h1 with
 | [c0,c1,c2,c3],_ =>
  have k0:Tryz.prog.cellsOf 22=1:=by kernel_rfl
  have k1:Tryz.prog.cellsOf 23=1:=by kernel_rfl
  have k2:Tryz.prog.cellsOf 26=1:=by kernel_rfl
  have k3:Tryz.prog.cellsOf 27=1:=by kernel_rfl
  have kp:Tryz.prog.cellsOf 25=2:=by kernel_rfl
  have hp:RdT Tryz.prog W 25 [c0,c1]:=by
   have:RdT Tryz.prog W 25 ((([c0,c1,c2,c3]:List Value).drop 0).take (Tryz.prog.cellsOf 25)):=hf 0 _ rfl
   rw [show (Tryz.prog.cellsOf 25)=2 from kp] at this
   exact this
  have f0:=hp.fld1 Tryz.underlying25 0 rfl rfl rfl k0 rfl
  have f1:=hp.fld1 Tryz.underlying25 1 rfl rfl rfl k1 rfl
  have f2:=h.fld1 Tryz.underlying29 1 rfl rfl rfl k2 rfl
  have f3:=h.fld1 Tryz.underlying29 2 rfl rfl rfl k3 rfl
  obtain ⟨v,e,qs,a1,a2,a3⟩:=f0.sliceE Tryz.underlying22 (s:=1) (by kernel_rfl) (by omega) (fun x hx=>int_of hx)
  simp only [List.cons.injEq,and_true] at e
  obtain ⟨u,e',ct,b1,b2,b3⟩:=f1.sliceE Tryz.underlying23 (s:=7) (by kernel_rfl) (by omega) (fun x hx=>ct_of hx)
  simp only [List.cons.injEq,and_true] at e'
  obtain ⟨u2,e2,bk,d1,d2,d3⟩:=f2.sliceE Tryz.underlying26 (s:=4) (by kernel_rfl) (by omega) (fun x hx=>bk_of hx)
  simp only [List.cons.injEq,and_true] at e2
  obtain ⟨u3,e3,hd,g1,g2,g3⟩:=f3.sliceE Tryz.underlying27 (s:=5) (by kernel_rfl) (by omega) (fun x hx=>hd_of hx)
  simp only [List.cons.injEq,and_true] at e3
  have cap2:=f1.capOK Tryz.underlying23
  subst e e' e2 e3
  obtain ⟨pq,kq,rfl,_⟩:=a1.val Eng.encI_len
  obtain ⟨pc,kc,rfl,_⟩:=b1.val encC_len
  obtain ⟨pb,kb,rfl,_⟩:=d1.val encB_len
  obtain ⟨ph,kh,rfl,_⟩:=g1.val encH_len
  simp only [maxLen] at a3 b3 d3 g3
  exact ⟨pq,pc,pb,ph,kq,kc,kb,kh,qs,ct,bk,hd,rfl,a1,b1,cap2.le,by omega,by omega,d1,by omega,g1,by omega⟩
end Go.Proofs.YtjehnjhkcmobcaaGreat
namespace Go.Eng
theorem rowN {α:Type} {enc:α→List Value} {s:Nat} (he:∀ x,(enc x).length=s) {ρ:PH} {p:Option Addr} {k:Nat} {l:List α} (h:SlE enc s ρ (.slice p l.length k) l):RowsE enc s ρ p l:=by
  obtain ⟨_,_,e,hr⟩:=h.val he
  simp only [Value.slice.injEq] at e
  obtain ⟨rfl,_,_⟩:=e
  exact hr
end Go.Eng
namespace Go.Eng
variable {C : Cx} {D : List Deferred} {R H : List PH} {L : Env} {K : List It}
variable {dst : Option Tmp} {ty : TypeId} {pos : String} {aft : Array Edge} {g : Option (Nat × Bool)}
abbrev aggI (k : List Int) : Value := .agg (k.map int).toArray
def entsS : Nat → List (List Int × Value) → List MapEntry
  | _, [] => []
  | i, kv :: m => ⟨aggI kv.1, kv.2, i⟩ :: entsS (i + 1) m
def mapS (m : List (List Int × Value)) : Obj := .map (entsS 0 m).toArray m.length
def midxS (k : List Int) : List (List Int × Value) → Option (Nat × Value)
  | [] => none
  | (a, v) :: m => if k = a then some (0, v) else (midxS k m).map (fun p => (p.1 + 1, p.2))
def mgetS (k : List Int) (m : List (List Int × Value)) : Option Value := (midxS k m).map (·.2)
def msetS (k : List Int) (v : Value) : List (List Int × Value) → List (List Int × Value)
  | [] => [(k, v)]
  | (a, w) :: m => if k = a then (a, v) :: m else (a, w) :: msetS k v m
theorem mgetS_mset (k x : List Int) (v : Value) : ∀ m : List (List Int × Value), mgetS x (msetS k v m) = if x = k then some v else mgetS x m
  | [] => by
    by_cases h : x = k <;> simp [msetS, mgetS, midxS, h]
  | (a, w) :: m => by
    have ih := mgetS_mset k x v m
    by_cases h : k = a
    · subst h
      simp only [msetS, if_true, mgetS, midxS]
      by_cases e : x = k <;> simp [e]
    · simp only [msetS, if_neg h, mgetS, midxS] at ih ⊢
      by_cases e : x = a
      · subst e
        simp [Ne.symm h]
      · simp only [if_neg e, Option.map_map] at ih ⊢
        have e2 : ((fun x : Nat × Value => x.2) ∘ fun p : Nat × Value => (p.1 + 1, p.2)) = fun x => x.2 := rfl
        rw [e2, ih]
theorem mset_noneS {k : List Int} {v : Value} : ∀ {m : List (List Int × Value)} (i : Nat), midxS k m = none → entsS i m ++ [⟨aggI k, v, i + m.length⟩] = entsS i (msetS k v m) ∧ (msetS k v m).length = m.length + 1
  | [], i, _ => ⟨rfl, rfl⟩
  | (a, w) :: m, i, h => by
    unfold midxS at h
    split at h
    · exact absurd h (by simp)
    · rename_i hk
      have h' : midxS k m = none := by simpa using h
      obtain ⟨e, l⟩ := mset_noneS (k := k) (v := v) (m := m) (i + 1) h'
      simp only [msetS, if_neg hk, entsS, List.cons_append, List.length_cons, l, and_true, ← e]
      congr 4
      omega
theorem mset_someS {k : List Int} {v : Value} : ∀ {m : List (List Int × Value)} (i n : Nat) (w : Value), midxS k m = some (n, w) → (entsS i m).modify n (fun e => { e with key := aggI k, val := v }) = entsS i (msetS k v m) ∧ (msetS k v m).length = m.length ∧ n < m.length ∧ ((entsS i m)[n]?).map (·.key) = some (aggI k)
  | [], i, n, w, h => by simp [midxS] at h
  | (a, u) :: m, i, n, w, h => by
    unfold midxS at h
    split at h
    · rename_i hk
      subst hk
      simp at h
      obtain ⟨rfl, rfl⟩ := h
      simp [entsS, msetS]
    · rename_i hk
      cases hm : midxS k m with
      | none => rw [hm] at h; simp at h
      | some p =>
        rw [hm] at h
        simp at h
        obtain ⟨rfl, rfl⟩ := h
        obtain ⟨e, l, l2, l3⟩ := mset_someS (k := k) (v := v) (m := m) (i + 1) p.1 p.2 hm
        simp only [msetS, if_neg hk, entsS, List.length_cons, l, List.modify_succ_cons, e]
        refine ⟨trivial, trivial, by omega, ?_⟩
        simpa using l3
structure KeyS (P : Program) (kt : TypeId) (n : Nat) : Prop where
  i : intsP P kt n = true
  s : P.stoodInHeld kt = false
theorem run_askS {P : Program} {w : World} {kt : TypeId} {n : Nat} {k : List Int} (hk : KeyS P kt n) (hn : k.length = n) : ∀ (m : List (List Int × Value)) (i j : Nat), (∀ x ∈ m, x.1.length = n) → (Instr.findAsking kt (aggI k) (entsS i m) j).run P w = .ok ((midxS k m).map (fun p => (j + p.1, p.2))) w
  | [], i, j, _ => by simp [entsS, Instr.findAsking, midxS]
  | (a, v) :: m, i, j, h => by
    have ih := run_askS (w := w) hk hn m (i + 1) (j + 1) (fun x hx => h x (by simp [hx]))
    have he := run_eqInts (P := P) w hk.i hk.s hn (h (a, v) (by simp))
    simp only [entsS, Instr.findAsking, Op.equal, Op.maxDepth, Sem.run_bind, he, Result.andThen_ok, midxS]
    by_cases e : k = a
    · simp [e]
    · simp only [e, decide_false, Bool.false_eq_true, if_false, ih, Option.map_map]
      congr 2
      funext p
      show (j + 1 + p.1, p.2) = (j + (p.1 + 1), p.2)
      rw [show j + 1 + p.1 = j + (p.1 + 1) by omega]
theorem run_findS {P : Program} {w : World} {kt : TypeId} {n : Nat} {k : List Int} (hk : KeyS P kt n) (hn : k.length = n) {m : List (List Int × Value)} (h : ∀ x ∈ m, x.1.length = n) : (Instr.findKey kt (aggI k) (entsS 0 m)).run P w = .ok (midxS k m) w := by
  obtain ⟨fs, hu, _, _⟩ := intsP_of hk.i
  rw [run_findKey_eq w (by rw [hu]), run_askS hk hn m 0 0 h]
  simp
theorem run_checkFlds {P : Program} {w : World} (em : Bool) (d : Nat) (k : List Int) : ∀ (fs : List Field) (j : Nat), fldsI P j fs = true → j + fs.length = k.length →
    ((forIn fs PUnit.unit fun (f : Field) (_ : PUnit) => (if f.name ≠ "_" then do let x ← part f.type (k.map int).toArray f.offset; Instr.checkKey em (d + 1) f.type x; pure (ForInStep.yield PUnit.unit) else pure (ForInStep.yield PUnit.unit) : Sem (ForInStep PUnit)))).run P w = .ok PUnit.unit w
  | [], j, _, _ => by simp
  | f :: fs, j, hf, h => by
    simp only [fldsI, fldI, Bool.and_eq_true, bne_iff_ne, ne_eq, beq_iff_eq] at hf
    obtain ⟨⟨⟨h3, h4⟩, h5⟩, h6⟩ := hf
    have hu : P.underlying f.type = some (.int .i64) := by
      split at h5
      · assumption
      · simp at h5
    have ih := run_checkFlds (w := w) em d k fs (j + 1) h6 (by simp at h; omega)
    have hk : j < k.length := by simp at h; omega
    have hp : (part f.type (k.map int).toArray f.offset).run P w = .ok (int k[j]) w := by
      have hag : aggP P f.type = some false := by simp [aggP, hu]
      simp [part, run_isAgg hag, h4, hk]
    have hc := run_checkKey (P := P) (w := w) (k := k[j]) em d hu
    rw [List.forIn_cons];simp only [h3, not_false_eq_true, if_true, ne_eq, bind_assoc, Sem.run_bind, hp, hc, Result.andThen_ok, pure_bind];exact ih
theorem run_checkS {P : Program} {w : World} {kt : TypeId} {n : Nat} {k : List Int} (hk : KeyS P kt n) (hn : k.length = n) (em : Bool) : (Instr.checkKey em 10000 kt (aggI k)).run P w = .ok () w := by
  obtain ⟨fs, hu, hs, hf⟩ := intsP_of hk.i
  have h := run_checkFlds (P := P) (w := w) em 9998 k fs.toList 0 hf (by simp [hs, hn])
  rw [show (10000 : Nat) = 9999 + 1 from rfl, Instr.checkKey]
  simp only [Sem.run_bind, run_underlying hu, Result.andThen_ok, ← Array.forIn_toList];rw [h]
  rfl
theorem run_lookupS {P : Program} {w : World} {t kt et : TypeId} {b n : Nat} {k : List Int} {l : List (List Int × Value)} {z : Value} {ok : Bool} (ht : P.underlying t = some (.map kt et)) (hk : KeyS P kt n) (hn : k.length = n) (hl : ∀ x ∈ l, x.1.length = n) (hz : zeroP P et = some z) (hg : w.heap[b]? = some (mapS l)) :
    (Instr.lookup t (.map (some b)) (aggI k) ok).run P w = .ok (if ok then .tuple #[(mgetS k l).getD z, .bool (mgetS k l).isSome] else (mgetS k l).getD z) w := by
  have hf := run_findS (P := P) (w := w) (k := k) hk hn hl
  have hc := fun e => run_checkS (P := P) (w := w) (k := k) hk hn e
  unfold mgetS
  cases hm : midxS k l with
  | none =>
    rw [hm] at hf
    simp [Instr.lookup, run_underlying ht, getObj, Sem.run, hg, mapS]
    simp [hc, hf, run_zeroValue hz]
  | some p =>
    rw [hm] at hf
    simp [Instr.lookup, run_underlying ht, getObj, Sem.run, hg, mapS]
    simp [hc, hf]
def MapAtS (N : Bs) (R H : List PH) (b : Nat) (l : List (List Int × Value)) : Prop := ∀ w, Sat N R H w → w.heap[b]? = some (mapS l)
theorem mapAtS_own {N : Bs} {b : Nat} {l : List (List Int × Value)} (m : Mem (sng b (mapS l)) H) : MapAtS N R H b l := fun w hs => hs.h _ m.mem b _ (sng_self b _)
theorem mapAtS_rd {N : Bs} {b : Nat} {l : List (List Int × Value)} (m : Mem (sng b (mapS l)) R) : MapAtS N R H b l := fun w hs => hs.r _ m.mem b _ (sng_self b _)
theorem EZ {t : TypeId} : Loud C R H L ⟨dst, .makeMap t none, ty, pos, aft, g⟩ (fun v H' => ∃ b, v = .map (some b) ∧ H' = sng b (mapS []) :: H) := ER
theorem FL {x y : Operand} {t kt et : TypeId} {b : Nat} (n : Nat) (k : List Int) {l : List (List Int × Value)} {z : Value} (h : evalE L x = some (.map (some b))) (hk : evalE L y = some (aggI k)) (ht : C.P.underlying t = some (.map kt et)) (hkt : KeyS C.P kt n) (hn : k.length = n) (hl : ∀ x ∈ l, x.1.length = n) (hz : zeroP C.P et = some z) (hm : MapAtS C.N R H b l) :
    Quiet C R H L ⟨dst, .lookup t x y false, ty, pos, aft, g⟩ ((mgetS k l).getD z) :=
  ⟨by intro c; simp, fun a w hx hs => by
    have e1 := hx x (by simp [Op.operands]) _ h
    have e2 := hx y (by simp [Op.operands]) _ hk
    simp [execOp, e1, e2, run_lookupS (ok := false) ht hkt hn hl hz (hm w hs)]⟩
theorem sameBits_agg (k : List Int) : Instr.sameBits 10000 (aggI k) (aggI k) = true := by
  have h : ∀ l : List Int, ((l.map int).zip (l.map int)).all (fun p => Instr.sameBits 9999 p.1 p.2) = true := by
    intro l
    induction l with
    | nil => rfl
    | cons x l ih =>
      simp only [List.map_cons, List.zip_cons_cons, List.all_cons, ih, Bool.and_true]
      simp [Instr.sameBits]
  have h2 := h k
  simp only [aggI];unfold Instr.sameBits;simp only [beq_self_eq_true, Bool.true_and];exact h2
theorem run_mapUpdateS {P : Program} {w : World} {t kt et : TypeId} {b n : Nat} {k : List Int} {v : Value} {l : List (List Int × Value)} (ht : P.underlying t = some (.map kt et)) (hkt : KeyS P kt n) (hn : k.length = n) (hl : ∀ x ∈ l, x.1.length = n) (hg : w.heap[b]? = some (mapS l)) :
    (Instr.mapUpdate t (.map (some b)) (aggI k) v).run P w = .ok () { w with heap := w.heap.setIfInBounds b (mapS (msetS k v l)) } := by
  have hf := run_findS (P := P) (w := w) (k := k) hkt hn hl
  have hc := fun e => run_checkS (P := P) (w := w) (k := k) hkt hn e
  cases hm : midxS k l with
  | none =>
    rw [hm] at hf
    obtain ⟨e, n⟩ := mset_noneS (k := k) (v := v) 0 hm
    have e2 : mapS (msetS k v l) = .map ((entsS 0 l).toArray.push ⟨aggI k, v, l.length⟩) (l.length + 1) := by
      unfold mapS; rw [n, ← e]; simp
    rw [e2]
    simp [Instr.mapUpdate, run_underlying ht, getObj, Sem.run, hg, mapS]
    simp [hc, hf, setObj, Sem.run, hg, mapS]
  | some p =>
    rw [hm] at hf
    obtain ⟨e, n, n2, n3⟩ := mset_someS (k := k) (v := v) 0 p.1 p.2 hm
    have e2 : mapS (msetS k v l) = .map ((entsS 0 l).toArray.modify p.1 (fun e => { e with key := aggI k, val := v })) l.length := by
      unfold mapS; rw [n, ← e]; simp
    rw [e2]
    have hks : (Instr.keyThatStays (aggI k) (aggI k)).run P w = .ok (aggI k) w := by simp [Instr.keyThatStays, sameBits_agg]
    simp [Instr.mapUpdate, run_underlying ht, getObj, Sem.run, hg, mapS]
    simp [hc, hf, setObj, Sem.run, n3, hks, hg, mapS]
theorem EI {x y z : Operand} {t kt et : TypeId} {b : Nat} (n : Nat) (k : List Int) {v : Value} {l : List (List Int × Value)} {H' : List PH} (h : evalE L x = some (.map (some b))) (hk : evalE L y = some (aggI k)) (hv : evalE L z = some v) (ht : C.P.underlying t = some (.map kt et)) (hkt : KeyS C.P kt n) (hn : k.length = n) (hl : ∀ x ∈ l, x.1.length = n) (hm : Take (sng b (mapS l)) H H') :
    Loud C R H L ⟨dst, .mapUpdate t x y z, ty, pos, aft, g⟩ (fun u H2 => u = undef ∧ H2 = sng b (mapS (msetS k v l)) :: H') := by
  refine ⟨fun a w hx hs next Q hnx => ?_⟩
  have hg := hs.own hm
  have e1 := hx x (by simp [Op.operands]) _ h
  have e2 := hx y (by simp [Op.operands]) _ hk
  have e3 := hx z (by simp [Op.operands]) _ hv
  refine wpIn_skipv (w' := { w with heap := w.heap.setIfInBounds b (mapS (msetS k v l)) }) (by intro c; simp) ?_ (hnx _ _ _ ⟨rfl, rfl⟩ (hs.turn hm ?_ ?_ ?_))
  · simp [execOp, e1, e2, e3, run_mapUpdateS ht hkt hn hl hg]
  · simp
  · have : b < w.heap.size := by
      rw [Array.getElem?_eq_some_iff] at hg; exact hg.1
    simp [this]
  · intro k hk; simp [Array.getElem?_setIfInBounds, Ne.symm hk]
theorem msetS_len {k : List Int} {v : Value} {n : Nat} (hk : k.length = n) : ∀ {l : List (List Int × Value)}, (∀ x ∈ l, x.1.length = n) → ∀ x ∈ msetS k v l, x.1.length = n
  | [], _, x, hx => by simp [msetS] at hx; rw [hx]; exact hk
  | (a, w) :: l, h, x, hx => by
    unfold msetS at hx
    split at hx
    · rcases List.mem_cons.1 hx with rfl | hx
      · exact h (a, w) (by simp)
      · exact h x (by simp [hx])
    · rcases List.mem_cons.1 hx with rfl | hx
      · exact h (a, w) (by simp)
      · exact msetS_len hk (l := l) (fun y hy => h y (by simp [hy])) x hx
end Go.Eng
namespace Go.Eng
theorem OwnS.form {e:TypeId} {s n:Nat} {v:Value} {xs:List Value} {ρ:PH} (h:OwnS e s v n xs ρ):∃ p c,v=.slice p n c:=by
  obtain ⟨_,⟨rfl,rfl,_⟩|⟨b,cap,_,rfl,_⟩⟩:=h
  · exact ⟨none,0,rfl⟩
  · exact ⟨_,cap,rfl⟩
theorem OwnS.formP {e:TypeId} {s n:Nat} {v:Value} {xs:List Value} {ρ:PH} (h:OwnS e s v n xs ρ) (hn:0<n):∃ b c,v=.slice (some ⟨b,0,none⟩) n c:=by
  obtain ⟨_,⟨_,h,_⟩|⟨b,cap,_,rfl,_⟩⟩:=h
  · omega
  · exact ⟨b,cap,rfl⟩
theorem SlAt.mono {ρ γ:PH} {s n:Nat} {v:Value} {xs:List Value} (h:SlAt ρ s v n xs) (hs:PH.sub ρ γ):SlAt γ s v n xs:=by
  obtain ⟨h1,h2|⟨b,o,c,e,h3⟩⟩:=h
  · exact ⟨h1,.inl h2⟩
  · exact ⟨h1,.inr ⟨b,o,c,e,fun j u hu=>hs.rdc (h3 j u hu)⟩⟩
theorem SlE.mono {α:Type} {enc:α→List Value} {s:Nat} {ρ γ:PH} {v:Value} {l:List α} (h:SlE enc s ρ v l) (hs:PH.sub ρ γ):SlE enc s γ v l:=SlAt.mono h hs
end Go.Eng
namespace Go.Step
theorem chkI_at {l:List (Int × Int)} (h:chkI l=0) {i:Nat} (hi:i<l.length):l[i].1<l[i].2∧(∀ h0:0<i,l[i-1].2<l[i].1):=by
  unfold chkI at h
  split at h
  · simp at h
  have h2:=firstE_zero h i hi
  rw [spE_at (List.getElem?_eq_getElem hi)] at h2
  split at h2
  · simp at h2
  rename_i h3
  split at h2
  · simp at h2
  rename_i h4
  have h5:okSp l[i]:=Decidable.not_not.1 h3
  refine ⟨h5.1,fun h0=>?_⟩
  rw [List.getD_eq_getElem?_getD,List.getElem?_eq_getElem (by omega),Option.getD_some] at h4
  omega
theorem chkI_hi {l:List (Int × Int)} (h:chkI l=0):∀ (k:Nat) {i:Nat} (hi:i+k<l.length),l[i].2≤l[i+k].2
  | 0,i,hi=>Int.le_refl _
  | k+1,i,hi=>by
    have h1:=chkI_hi h k (i:=i) (by omega)
    have h2:=(chkI_at h (i:=i+(k+1)) hi).1
    have h3:=(chkI_at h hi).2 (by omega)
    have e:i+(k+1)-1=i+k:=by omega
    simp only [e] at h3;omega
end Go.Step
namespace Go.Step
abbrev Iv:=List (Int × Int)
def NormI (l:Iv):Prop:=(∀ x∈l,x.1<x.2)∧l.Pairwise (fun x y=>x.2<y.1)
def memI (l:Iv) (t:Int):Bool:=l.any (inSp t)
theorem inSp_iff {t:Int} {x:Int × Int}:inSp t x=true↔x.1≤t∧t<x.2:=by simp [inSp]
theorem memI_iff {l:Iv} {t:Int}:memI l t=true↔∃ x∈l,x.1≤t∧t<x.2:=by simp [memI,inSp]
theorem memI_cons (x:Int × Int) (l:Iv) (t:Int):memI (x::l) t=(inSp t x || memI l t):=rfl
theorem NormI.nil:NormI []:=⟨by simp,.nil⟩
theorem NormI.tail {x:Int × Int} {l:Iv} (h:NormI (x::l)):NormI l:=⟨fun y hy=>h.1 y (by simp [hy]),(List.pairwise_cons.1 h.2).2⟩
theorem NormI.hd {x:Int × Int} {l:Iv} (h:NormI (x::l)):x.1<x.2∧∀ y∈l,x.2<y.1:=⟨h.1 x (by simp),(List.pairwise_cons.1 h.2).1⟩
theorem NormI.cons {x:Int × Int} {l:Iv} (h:NormI l) (h1:x.1<x.2) (h2:∀ y∈l,x.2<y.1):NormI (x::l):=
  ⟨fun y hy=>by
    rcases List.mem_cons.1 hy with rfl|hy
    · exact h1
    · exact h.1 y hy,List.pairwise_cons.2 ⟨h2,h.2⟩⟩
theorem memI_lo {x:Int × Int} {l:Iv} {t:Int} (h:NormI (x::l)) (hm:memI (x::l) t=true):x.1≤t:=by
  obtain ⟨y,hy,h1,h2⟩:=memI_iff.1 hm
  rcases List.mem_cons.1 hy with rfl|hy
  · exact h1
  · have a:=h.hd.1
    have b:=h.hd.2 y hy
    omega
theorem memI_lo2 {x:Int × Int} {l:Iv} {t:Int} (h:NormI (x::l)) (hm:memI l t=true):x.2<t:=by
  obtain ⟨y,hy,h1,h2⟩:=memI_iff.1 hm
  have b:=h.hd.2 y hy
  omega
theorem memI_first {x:Int × Int} {l:Iv} (h:x.1<x.2):memI (x::l) x.1=true:=memI_iff.2 ⟨x,by simp,by omega,h⟩
theorem normI_ext:∀ {a b:Iv},NormI a→NormI b→(∀ t,memI a t=memI b t)→a=b
  | [],[],_,_,_=>rfl
  | [],y::b,_,hb,h=>by
    have:=h y.1
    rw [memI_first hb.hd.1] at this
    exact absurd this (by simp [memI])
  | x::a,[],ha,_,h=>by
    have:=h x.1
    rw [memI_first ha.hd.1] at this
    exact absurd this (by simp [memI])
  | x::a,y::b,ha,hb,h=>by
    have e1:x.1=y.1:=by
      have h1:=memI_lo hb (t:=x.1) (by rw [← h]; exact memI_first ha.hd.1)
      have h2:=memI_lo ha (t:=y.1) (by rw [h]; exact memI_first hb.hd.1)
      omega
    have hx:=ha.hd.1
    have hy:=hb.hd.1
    have e2:x.2=y.2:=by
      apply Int.le_antisymm
      · apply Int.not_lt.1
        intro hlt
        have h1:=h y.2
        rw [memI_cons,memI_cons,(inSp_iff (t:=y.2) (x:=x)).2 ⟨by omega,hlt⟩,Bool.true_or] at h1
        rcases (Bool.or_eq_true _ _).mp h1.symm with h2|h2
        · have:=(inSp_iff.1 h2).2; omega
        · have:=memI_lo2 hb h2; omega
      · apply Int.not_lt.1
        intro hlt
        have h1:=h x.2
        rw [memI_cons,memI_cons,(inSp_iff (t:=x.2) (x:=y)).2 ⟨by omega,hlt⟩,Bool.true_or] at h1
        rcases (Bool.or_eq_true _ _).mp h1 with h2|h2
        · have:=(inSp_iff.1 h2).2; omega
        · have:=memI_lo2 ha h2; omega
    have exy:x=y:=Prod.ext e1 e2
    subst exy
    congr 1
    refine normI_ext ha.tail hb.tail (fun t=>?_)
    by_cases ht:x.2<t
    · have h1:=h t
      have h2:inSp t x=false:=by
        cases e:inSp t x with
        | false=>rfl
        | true=>have:=(inSp_iff.1 e).2; omega
      rw [memI_cons,memI_cons,h2,Bool.false_or,Bool.false_or] at h1;exact h1
    · have h1:memI a t=false:=by
        cases e:memI a t with
        | false=>rfl
        | true=>exact absurd (memI_lo2 ha e) ht
      have h2:memI b t=false:=by
        cases e:memI b t with
        | false=>rfl
        | true=>exact absurd (memI_lo2 hb e) ht
      rw [h1,h2]
/-! sets that are checked -/
theorem chkI_norm {l:Iv} (h:chkI l=0):l.length≤1000∧NormI l∧∀ x∈l,okSp x:=by
  have h1:l.length≤1000:=by
    unfold chkI at h
    split at h
    · simp at h
    · omega
  refine ⟨h1,⟨fun x hx=>?_,List.pairwise_iff_getElem.2 (fun i j hi hj hij=>?_)⟩,fun x hx=>?_⟩
  · obtain ⟨i,hi,rfl⟩:=List.getElem_of_mem hx
    exact (chkI_at h hi).1
  · have a:=chkI_hi h (j-1-i) (i:=i) (by omega)
    have b:=(chkI_at h hj).2 (by omega)
    have e:i+(j-1-i)=j-1:=by omega
    simp only [e] at a;omega
  · obtain ⟨i,hi,rfl⟩:=List.getElem_of_mem hx
    unfold chkI at h
    rw [if_neg (by omega)] at h
    have h2:=firstE_zero h i hi
    rw [spE_at (List.getElem?_eq_getElem hi)] at h2
    split at h2
    · simp at h2
    · rename_i h3; exact Decidable.not_not.1 h3
theorem chkI_of {l:Iv} (h1:l.length≤1000) (h2:NormI l) (h3:∀ x∈l,okSp x):chkI l=0:=by
  unfold chkI
  rw [if_neg (by omega)]
  refine firstE_all (fun k hk=>?_)
  rw [spE_at (List.getElem?_eq_getElem hk),if_neg (fun h=>h (h3 _ (List.getElem_mem hk)))]
  by_cases h0:0<k
  · have h4:=List.pairwise_iff_getElem.1 h2.2 (k-1) k (by omega) hk (by omega)
    rw [if_neg]
    rw [List.getD_eq_getElem?_getD,List.getElem?_eq_getElem (by omega),Option.getD_some]
    omega
  · rw [if_neg (fun h=>h0 h.1)]
theorem hasI_mem {l:Iv} (h:chkI l=0) (t:Int):hasI l t=memI l t:=by unfold hasI memI; rw [decide_eq_true h,Bool.true_and]
/-! one more span -/
def absI:Iv→Int × Int→Iv
  | [],x=>[x]
  | y::l,x=>if y.1≤x.2 then absI l (min x.1 y.1,max x.2 y.2) else x::y::l
def insI:Iv→Int × Int→Iv
  | [],x=>[x]
  | y::l,x=>if y.2<x.1 then y::insI l x else absI (y::l) x
theorem absI_ok:∀ {l:Iv} {x:Int × Int} {lo:Int},NormI l→x.1<x.2→(∀ y∈l,x.1≤y.2)→lo<x.1→(∀ y∈l,lo<y.1)→NormI (absI l x)∧(∀ t,memI (absI l x) t=(memI l t || inSp t x))∧(∀ z∈absI l x,lo<z.1)∧(absI l x).length≤l.length+1
  | [],x,lo,_,h,_,hlo,_=>⟨NormI.nil.cons h (by simp),fun t=>by simp [absI,memI],by simpa [absI] using hlo,by simp [absI]⟩
  | y::l,x,lo,hn,h,hy,hlo,hl=>by
    unfold absI
    have hy1:=hn.hd.1
    have hy2:=hy y (by simp)
    have hl1:=hl y (by simp)
    split
    · rename_i hc
      obtain ⟨a,b,c,d⟩:=absI_ok (l:=l) (x:=(min x.1 y.1,max x.2 y.2)) (lo:=lo) hn.tail (by dsimp only; omega) (fun z hz=>by have:=hn.hd.2 z hz; have:=hn.1 z (by simp [hz]); dsimp only; omega) (by dsimp only; omega) (fun z hz=>hl z (by simp [hz]))
      refine ⟨a,fun t=>?_,c,by simp only [List.length_cons]; omega⟩
      rw [b,memI_cons]
      have e:inSp t (min x.1 y.1,max x.2 y.2)=(inSp t x || inSp t y):=by
        rw [Bool.eq_iff_iff,Bool.or_eq_true,inSp_iff,inSp_iff,inSp_iff]
        dsimp only
        omega
      rw [e]
      cases inSp t x <;> cases inSp t y <;> cases memI l t <;> rfl
    · rename_i hc
      refine ⟨hn.cons h (fun z hz=>?_),fun t=>?_,fun z hz=>?_,by simp⟩
      · rcases List.mem_cons.1 hz with rfl|hz
        · omega
        · have:=hn.hd.2 z hz; omega
      · rw [memI_cons,Bool.or_comm]
      · rcases List.mem_cons.1 hz with rfl|hz
        · exact hlo
        · exact hl z hz
theorem insI_ok:∀ {l:Iv} {x:Int × Int} {lo:Int},NormI l→x.1<x.2→lo<x.1→(∀ y∈l,lo<y.1)→NormI (insI l x)∧(∀ t,memI (insI l x) t=(memI l t || inSp t x))∧(∀ z∈insI l x,lo<z.1)∧(insI l x).length≤l.length+1
  | [],x,lo,_,h,hlo,_=>⟨NormI.nil.cons h (by simp),fun t=>by simp [insI,memI],by simpa [insI] using hlo,by simp [insI]⟩
  | y::l,x,lo,hn,h,hlo,hl=>by
    unfold insI
    have hy1:=hn.hd.1
    have hl1:=hl y (by simp)
    split
    · rename_i hc
      obtain ⟨a,b,c,d⟩:=insI_ok (l:=l) (x:=x) (lo:=y.2) hn.tail h hc hn.hd.2
      refine ⟨a.cons hy1 c,fun t=>?_,fun z hz=>?_,by simp only [List.length_cons]; omega⟩
      · rw [memI_cons,b,memI_cons,Bool.or_assoc]
      · rcases List.mem_cons.1 hz with rfl|hz
        · exact hl1
        · have:=c z hz; omega
    · rename_i hc
      refine absI_ok hn h (fun z hz=>?_) hlo hl
      rcases List.mem_cons.1 hz with rfl|hz
      · omega
      · have:=hn.hd.2 z hz
        have:=hn.1 z (by simp [hz])
        omega
theorem lo_ex (l:Iv) (x:Int):∃ lo,lo<x∧∀ y∈l,lo<y.1:=by
  induction l with
  | nil=>exact ⟨x-1,by omega,by simp⟩
  | cons y l ih =>
    obtain ⟨lo,h1,h2⟩:=ih
    refine ⟨min lo (y.1-1),by omega,fun z hz=>?_⟩
    rcases List.mem_cons.1 hz with rfl|hz
    · omega
    · have:=h2 z hz; omega
theorem insI_norm {l:Iv} {x:Int × Int} (h:NormI l) (hx:x.1<x.2):NormI (insI l x)∧(∀ t,memI (insI l x) t=(memI l t || inSp t x))∧(insI l x).length≤l.length+1:=by
  obtain ⟨lo,h1,h2⟩:=lo_ex l x.1
  obtain ⟨a,b,_,d⟩:=insI_ok h hx h1 h2
  exact ⟨a,b,d⟩
def insAll (a:Iv) (b:Iv):Iv:=b.foldl insI a
theorem insAll_ok:∀ {b a:Iv},NormI a→(∀ x∈b,x.1<x.2)→NormI (insAll a b)∧(∀ t,memI (insAll a b) t=(memI a t || memI b t))∧(insAll a b).length≤a.length+b.length
  | [],a,h,_=>⟨h,fun t=>by simp [insAll,memI],by simp [insAll]⟩
  | x::b,a,h,hb=>by
    obtain ⟨a1,a2,a3⟩:=insI_norm h (hb x (by simp))
    obtain ⟨b1,b2,b3⟩:=insAll_ok (b:=b) a1 (fun y hy=>hb y (by simp [hy]))
    refine ⟨b1,fun t=>?_,?_⟩
    · show memI (insAll (insI a x) b) t=_
      rw [b2,a2,memI_cons,Bool.or_assoc]
    · show (insAll (insI a x) b).length≤_
      simp only [List.length_cons];omega
theorem insI_take {l:Iv} {x:Int × Int}:∀ {i:Nat},i≤l.length→(∀ y∈l.take i,y.2<x.1)→insI l x=l.take i ++ insI (l.drop i) x:=by
  induction l with
  | nil=>intro i hi _; obtain rfl:i=0:=(by simpa using hi); rfl
  | cons y l ih =>
    intro i hi h
    cases i with
    | zero=>rfl
    | succ i =>
      rw [List.take_succ_cons,List.drop_succ_cons,List.cons_append]
      show (if y.2<x.1 then y::insI l x else absI (y::l) x)=_
      rw [if_pos (h y (by simp)),ih (by simpa using hi) (fun z hz=>h z (by simp [hz]))]
/-! intersection,span by span -/
/-! ends of spans -/
def tog (l:Iv):List Int:=l.flatMap (fun x=>[x.1,x.2])
theorem tog_len:∀ l:Iv,(tog l).length=2*l.length
  | []=>rfl
  | x::l=>by
    have:=tog_len l
    show (x.1::x.2::tog l).length=_
    simp only [List.length_cons];omega
theorem tog_get:∀ (l:Iv) (i:Nat) (x:Int × Int),l[i]?=some x→(tog l)[2*i]?=some x.1∧(tog l)[2*i+1]?=some x.2
  | [],i,x,h=>by simp at h
  | y::l,0,x,h=>by
    simp only [List.getElem?_cons_zero,Option.some.injEq] at h;subst h;exact ⟨rfl,rfl⟩
  | y::l,i+1,x,h=>by
    have:=tog_get l i x (by simpa using h)
    show (y.1::y.2::tog l)[2*(i+1)]?=_∧(y.1::y.2::tog l)[2*(i+1)+1]?=_
    rw [show 2*(i+1)=2*i+1+1 by omega]
    exact this
def parT:List Int→Int→Bool
  | [],_=>false
  | e::E,t=>if e≤t then !(parT E t) else parT E t
theorem parT_tog:∀ {l:Iv},NormI l→∀ t,parT (tog l) t=memI l t
  | [],_,t=>rfl
  | x::l,h,t=>by
    have ih:=parT_tog h.tail t
    have hx:=h.hd.1
    show (if x.1≤t then !(if x.2≤t then !(parT (tog l) t) else parT (tog l) t) else (if x.2≤t then !(parT (tog l) t) else parT (tog l) t))=(inSp t x || memI l t)
    rw [ih]
    have h1:t≤x.2→memI l t=false:=fun hle=>by
      cases e:memI l t with
      | false=>rfl
      | true=>have:=memI_lo2 h e; omega
    have h2:inSp t x=decide (x.1≤t∧t<x.2):=by rw [Bool.eq_iff_iff,inSp_iff,decide_eq_true_eq]
    rw [h2]
    by_cases c1:x.1≤t
    · by_cases c2:x.2≤t
      · rw [if_pos c1,if_pos c2,decide_eq_false (by omega),Bool.not_not,Bool.false_or]
      · rw [if_pos c1,if_neg c2,decide_eq_true (by omega),h1 (by omega)]; rfl
    · rw [if_neg c1,if_neg (by omega),decide_eq_false (by omega),Bool.false_or]
def oddB (n:Nat):Bool:=decide (n % 2=1)
theorem oddB_succ (n:Nat):oddB (n+1) = !(oddB n):=by
  unfold oddB
  by_cases h:n % 2=1
  · rw [decide_eq_true h,decide_eq_false (by omega)]; rfl
  · rw [decide_eq_false h,decide_eq_true (by omega)]; rfl
theorem parT_snoc (t x:Int):∀ O:List Int,parT (O ++ [t]) x=if t≤x then !(parT O x) else parT O x
  | []=>by simp [parT]
  | o::O=>by
    have ih:=parT_snoc t x O
    show (if o≤x then !(parT (O ++ [t]) x) else parT (O ++ [t]) x)=if t≤x then !(if o≤x then !(parT O x) else parT O x) else (if o≤x then !(parT O x) else parT O x)
    rw [ih]
    split <;> split <;> rfl
theorem parT_all {x:Int}:∀ {O:List Int},(∀ o∈O,o≤x)→parT O x=oddB O.length
  | [],_=>rfl
  | o::O,h=>by
    show (if o≤x then !(parT O x) else parT O x)=oddB (O.length+1)
    rw [if_pos (h o (by simp)),parT_all (fun p hp=>h p (by simp [hp])),oddB_succ]
theorem parT_none {x:Int}:∀ {O:List Int},(∀ o∈O,x<o)→parT O x=false
  | [],_=>rfl
  | o::O,h=>by
    show (if o≤x then !(parT O x) else parT O x)=false
    have:=h o (by simp)
    rw [if_neg (by omega),parT_none (fun p hp=>h p (by simp [hp]))]
def mrg:List Int→Bool→List Int→Bool→List (Int × Bool × Bool)
  | [],_,[],_=>[]
  | a::A,p,[],q=>(a,!p,q)::mrg A (!p) [] q
  | [],p,b::B,q=>(b,p,!q)::mrg [] p B (!q)
  | a::A,p,b::B,q=>if a<b then (a,!p,q)::mrg A (!p) (b::B) q else if b<a then (b,p,!q)::mrg (a::A) p B (!q) else (a,!p,!q)::mrg A (!p) B (!q)
termination_by A _ B _=>A.length+B.length
def mcomb1 (f:Bool→Bool→Bool) (O:List Int) (e:Int × Bool × Bool):List Int:=if f e.2.1 e.2.2=oddB O.length then O else O ++ [e.1]
def mcomb (f:Bool→Bool→Bool) (S:List (Int × Bool × Bool)) (O:List Int):List Int:=S.foldl (mcomb1 f) O
theorem comb1_odd (f:Bool→Bool→Bool) (O:List Int) (e:Int × Bool × Bool):oddB (mcomb1 f O e).length=f e.2.1 e.2.2:=by
  unfold mcomb1
  split
  · rename_i h; exact h.symm
  · rename_i h
    rw [List.length_append,List.length_singleton,oddB_succ]
    cases h1:oddB O.length <;> cases h2:f e.2.1 e.2.2 <;> simp_all
structure Cm (f:Bool→Bool→Bool) (A:List Int) (p:Bool) (B:List Int) (q:Bool) (O O':List Int):Prop where
  asc:O'.Pairwise (· < ·)
  hi:∀ x,(∀ o∈O,o≤x)→parT O' x=f (p ^^ parT A x) (q ^^ parT B x)
  lo:∀ x,(∀ a∈A,x<a)→(∀ b∈B,x<b)→parT O' x=parT O x
  len:O'.length≤O.length+A.length+B.length
theorem Cm.step {f:Bool→Bool→Bool} {A A1:List Int} {p p1:Bool} {B B1:List Int} {q q1:Bool} {O O':List Int} {t:Int}
    (h:Cm f A1 p1 B1 q1 (mcomb1 f O (t,p1,q1)) O') (ho:oddB O.length=f p q) (hA:∀ a∈A,t≤a) (hB:∀ b∈B,t≤b) (hOt:∀ o∈O,o<t)
    (eA:∀ x,t≤x→(p1 ^^ parT A1 x)=(p ^^ parT A x)) (eB:∀ x,t≤x→(q1 ^^ parT B1 x)=(q ^^ parT B x)) (sA:∀ a∈A1,t<a) (sB:∀ b∈B1,t<b) (hl:A1.length+B1.length+1≤A.length+B.length) (hin:t∈A∨t∈B):Cm f A p B q O O':=by
  have hmem:∀ o∈mcomb1 f O (t,p1,q1),o≤t:=fun o ho=>by
    unfold mcomb1 at ho
    split at ho
    · have:=hOt o ho; omega
    · rcases List.mem_append.1 ho with h|h
      · have:=hOt o h; omega
      · have:=List.mem_singleton.1 h; omega
  have hpre:∀ x,x<t→parT (mcomb1 f O (t,p1,q1)) x=parT O x:=fun x hx=>by
    unfold mcomb1
    split
    · rfl
    · rw [parT_snoc,if_neg (by dsimp only; omega)]
  have hcl:(mcomb1 f O (t,p1,q1)).length≤O.length+1:=by
    unfold mcomb1
    split
    · omega
    · simp
  refine ⟨h.asc,fun x hx=>?_,fun x hx hy=>?_,by have:=h.len; omega⟩
  · by_cases ht:t≤x
    · rw [h.hi x (fun o ho=>Int.le_trans (hmem o ho) ht),eA x ht,eB x ht]
    · rw [h.lo x (fun a ha=>by have:=sA a ha; omega) (fun b hb=>by have:=sB b hb; omega),hpre x (by omega),parT_all hx,parT_none (fun a ha=>by have:=hA a ha; omega),parT_none (fun b hb=>by have:=hB b hb; omega),Bool.xor_false,Bool.xor_false,ho]
  · have ht:x<t:=by
      rcases hin with h|h
      · exact hx t h
      · exact hy t h
    rw [h.lo x (fun a ha=>by have:=sA a ha; omega) (fun b hb=>by have:=sB b hb; omega),hpre x ht]
theorem comb1_asc {f:Bool→Bool→Bool} {O:List Int} {e:Int × Bool × Bool} (h:O.Pairwise (· < ·)) (ho:∀ o∈O,o<e.1):(mcomb1 f O e).Pairwise (· < ·):=by
  unfold mcomb1
  split
  · exact h
  · rw [List.pairwise_append]
    exact ⟨h,List.pairwise_singleton _ _,fun a ha b hb=>by rw [List.mem_singleton.1 hb]; exact ho a ha⟩
theorem comb1_lt {f:Bool→Bool→Bool} {O:List Int} {e:Int × Bool × Bool} {S:List Int} (ho:∀ o∈O,∀ a∈S,o<a) (he:∀ a∈S,e.1<a):∀ o∈mcomb1 f O e,∀ a∈S,o<a:=fun o h a ha=>by
  unfold mcomb1 at h
  split at h
  · exact ho o h a ha
  · rcases List.mem_append.1 h with h|h
    · exact ho o h a ha
    · rw [List.mem_singleton.1 h]; exact he a ha
theorem comb_ok (f:Bool→Bool→Bool):∀ (n:Nat) (A:List Int) (p:Bool) (B:List Int) (q:Bool) (O:List Int),A.length+B.length≤n→A.Pairwise (· < ·)→B.Pairwise (· < ·)→O.Pairwise (· < ·)→(∀ o∈O,∀ a∈A,o<a)→(∀ o∈O,∀ b∈B,o<b)→oddB O.length=f p q→Cm f A p B q O (mcomb f (mrg A p B q) O):=by
  have flip:∀ (p z:Bool),(!p ^^ z)=(p ^^ !z):=by decide
  intro n
  induction n with
  | zero =>
    intro A p B q O hn _ _ hO _ _ ho
    obtain rfl:A=[]:=List.eq_nil_of_length_eq_zero (by omega)
    obtain rfl:B=[]:=List.eq_nil_of_length_eq_zero (by omega)
    unfold mrg
    exact ⟨hO,fun x hx=>by rw [show mcomb f [] O=O from rfl,parT_all hx,ho]; simp [parT],fun _ _ _=>rfl,by show O.length≤_; omega⟩
  | succ n ih =>
    intro A p B q O hn hA hB hO hOA hOB ho
    match A,B,hn,hA,hB,hOA,hOB with
    | [],[],_,_,_,_,_ =>
      unfold mrg
      exact ⟨hO,fun x hx=>by rw [show mcomb f [] O=O from rfl,parT_all hx,ho]; simp [parT],fun _ _ _=>rfl,by show O.length≤_; omega⟩
    | a::A,[],hn,hA,hB,hOA,hOB =>
      unfold mrg
      obtain ⟨a1,a2⟩:=List.pairwise_cons.1 hA
      refine Cm.step (t:=a) (ih A (!p) [] q (mcomb1 f O (a,!p,q)) (by simp at hn ⊢; omega) a2 hB (comb1_asc hO (fun o h=>hOA o h a (by simp))) (comb1_lt (fun o h x hx=>hOA o h x (by simp [hx])) a1) (fun _ _ _ h=>by simp at h) (comb1_odd f O _)) ho (fun x hx=>?_) (fun _ h=>by simp at h) (fun o h=>hOA o h a (by simp)) (fun x hx=>?_) (fun _ _=>rfl) a1 (fun _ h=>by simp at h) (by simp) (.inl (by simp))
      · rcases List.mem_cons.1 hx with rfl|hx
        · exact Int.le_refl _
        · exact Int.le_of_lt (a1 x hx)
      · show (!p ^^ parT A x)=(p ^^ if a≤x then !(parT A x) else parT A x)
        rw [if_pos hx,flip]
    | [],b::B,hn,hA,hB,hOA,hOB =>
      unfold mrg
      obtain ⟨b1,b2⟩:=List.pairwise_cons.1 hB
      refine Cm.step (t:=b) (ih [] p B (!q) (mcomb1 f O (b,p,!q)) (by simp at hn ⊢; omega) hA b2 (comb1_asc hO (fun o h=>hOB o h b (by simp))) (fun _ _ _ h=>by simp at h) (comb1_lt (fun o h x hx=>hOB o h x (by simp [hx])) b1) (comb1_odd f O _)) ho (fun _ h=>by simp at h) (fun x hx=>?_) (fun o h=>hOB o h b (by simp)) (fun _ _=>rfl) (fun x hx=>?_) (fun _ h=>by simp at h) b1 (by simp) (.inr (by simp))
      · rcases List.mem_cons.1 hx with rfl|hx
        · exact Int.le_refl _
        · exact Int.le_of_lt (b1 x hx)
      · show (!q ^^ parT B x)=(q ^^ if b≤x then !(parT B x) else parT B x)
        rw [if_pos hx,flip]
    | a::A,b::B,hn,hA,hB,hOA,hOB =>
      obtain ⟨a1,a2⟩:=List.pairwise_cons.1 hA
      obtain ⟨b1,b2⟩:=List.pairwise_cons.1 hB
      have la:∀ x∈a::A,a≤x:=fun x hx=>by
        rcases List.mem_cons.1 hx with rfl|hx
        · exact Int.le_refl _
        · exact Int.le_of_lt (a1 x hx)
      have lb:∀ x∈b::B,b≤x:=fun x hx=>by
        rcases List.mem_cons.1 hx with rfl|hx
        · exact Int.le_refl _
        · exact Int.le_of_lt (b1 x hx)
      unfold mrg
      split
      · rename_i hc
        refine Cm.step (t:=a) (ih A (!p) (b::B) q (mcomb1 f O (a,!p,q)) (by simp at hn ⊢; omega) a2 hB (comb1_asc hO (fun o h=>hOA o h a (by simp))) (comb1_lt (fun o h x hx=>hOA o h x (by simp [hx])) a1) (comb1_lt hOB (fun x hx=>by have:=lb x hx; dsimp only; omega)) (comb1_odd f O _)) ho la (fun x hx=>by have:=lb x hx; omega) (fun o h=>hOA o h a (by simp)) (fun x hx=>?_) (fun _ _=>rfl) a1 (fun x hx=>by have:=lb x hx; omega) (by simp only [List.length_cons]; omega) (.inl (by simp))
        show (!p ^^ parT A x)=(p ^^ if a≤x then !(parT A x) else parT A x)
        rw [if_pos hx,flip]
      · rename_i hc
        split
        · rename_i hc2
          refine Cm.step (t:=b) (ih (a::A) p B (!q) (mcomb1 f O (b,p,!q)) (by simp at hn ⊢; omega) hA b2 (comb1_asc hO (fun o h=>hOB o h b (by simp))) (comb1_lt hOA (fun x hx=>by have:=la x hx; dsimp only; omega)) (comb1_lt (fun o h x hx=>hOB o h x (by simp [hx])) b1) (comb1_odd f O _)) ho (fun x hx=>by have:=la x hx; omega) lb (fun o h=>hOB o h b (by simp)) (fun _ _=>rfl) (fun x hx=>?_) (fun x hx=>by have:=la x hx; omega) b1 (by simp only [List.length_cons]; omega) (.inr (by simp))
          show (!q ^^ parT B x)=(q ^^ if b≤x then !(parT B x) else parT B x)
          rw [if_pos hx,flip]
        · rename_i hc2
          have hab:a=b:=by omega
          subst hab
          refine Cm.step (t:=a) (ih A (!p) B (!q) (mcomb1 f O (a,!p,!q)) (by simp at hn ⊢; omega) a2 b2 (comb1_asc hO (fun o h=>hOA o h a (by simp))) (comb1_lt (fun o h x hx=>hOA o h x (by simp [hx])) a1) (comb1_lt (fun o h x hx=>hOB o h x (by simp [hx])) b1) (comb1_odd f O _)) ho la lb (fun o h=>hOA o h a (by simp)) (fun x hx=>?_) (fun x hx=>?_) a1 b1 (by simp only [List.length_cons]; omega) (.inl (by simp))
          · show (!p ^^ parT A x)=(p ^^ if a≤x then !(parT A x) else parT A x)
            rw [if_pos hx,flip]
          · show (!q ^^ parT B x)=(q ^^ if a≤x then !(parT B x) else parT B x)
            rw [if_pos hx,flip]
theorem tog_asc:∀ {l:Iv},NormI l→(tog l).Pairwise (· < ·)∧∀ lo,(∀ x∈l,lo<x.1)→∀ e∈tog l,lo<e
  | [],_=>⟨.nil,fun _ _ _ h=>by simp [tog] at h⟩
  | x::l,h=>by
    obtain ⟨h1,h2⟩:=tog_asc h.tail
    have e:tog (x::l)=x.1::x.2::tog l:=rfl
    have hx:=h.hd.1
    have h3:=h2 x.2 h.hd.2
    rw [e]
    refine ⟨List.pairwise_cons.2 ⟨fun a ha=>?_,List.pairwise_cons.2 ⟨h3,h1⟩⟩,fun lo hlo a ha=>?_⟩
    · rcases List.mem_cons.1 ha with rfl|ha
      · exact hx
      · have:=h3 a ha; omega
    · have:=hlo x (by simp)
      rcases List.mem_cons.1 ha with rfl|ha
      · exact this
      · rcases List.mem_cons.1 ha with rfl|ha
        · omega
        · have:=h3 a ha; omega
def spans:List Int→Iv
  | []=>[]
  | [a]=>[(a,0)]
  | a::b::E=>(a,b)::spans E
theorem spans_len:∀ E:List Int,(spans E).length=(E.length+1) / 2
  | []=>rfl
  | [_]=>by simp [spans]
  | a::b::E=>by
    have:=spans_len E
    simp only [spans,List.length_cons];omega
theorem spans_even (t:Int):∀ {E:List Int},oddB E.length=false→spans (E ++ [t])=spans E ++ [(t,0)]
  | [],_=>rfl
  | [_],h=>by simp [oddB] at h
  | a::b::E,h=>by
    have h':oddB E.length=false:=by
      simp only [List.length_cons,oddB_succ,Bool.not_not] at h;exact h
    show (a,b)::spans (E ++ [t])=_
    rw [spans_even t h']
    rfl
theorem spans_odd (t:Int):∀ {E:List Int},oddB E.length=true→∃ l a,spans E=l ++ [(a,0)]∧spans (E ++ [t])=l ++ [(a,t)]
  | [],h=>by simp [oddB] at h
  | [a],_=>⟨[],a,rfl,rfl⟩
  | a::b::E,h=>by
    have h':oddB E.length=true:=by
      simp only [List.length_cons,oddB_succ,Bool.not_not] at h;exact h
    obtain ⟨l,c,h1,h2⟩:=spans_odd t h'
    refine ⟨(a,b)::l,c,?_,?_⟩
    · show (a,b)::spans E=_
      rw [h1]; rfl
    · show (a,b)::spans (E ++ [t])=_
      rw [h2]; rfl
theorem spans_norm:∀ {E:List Int},oddB E.length=false→E.Pairwise (· < ·)→NormI (spans E)∧tog (spans E)=E
  | [],_,_=>⟨NormI.nil,rfl⟩
  | [_],h,_=>by simp [oddB] at h
  | a::b::E,h,hp=>by
    have h':oddB E.length=false:=by
      simp only [List.length_cons,oddB_succ,Bool.not_not] at h;exact h
    obtain ⟨p1,p2⟩:=List.pairwise_cons.1 hp
    obtain ⟨p3,p4⟩:=List.pairwise_cons.1 p2
    obtain ⟨h1,h2⟩:=spans_norm h' p4
    refine ⟨h1.cons (p1 b (by simp)) (fun y hy=>?_),?_⟩
    · have:y.1∈tog (spans E):=by
        unfold tog;rw [List.mem_flatMap]
        exact ⟨y,hy,by simp⟩
      rw [h2] at this;exact p3 _ this
    · show a::b::tog (spans E)=_
      rw [h2]
def combI (f:Bool→Bool→Bool) (a b:Iv):Iv:=spans (mcomb f (mrg (tog a) false (tog b) false) [])
theorem combI_ok {f:Bool→Bool→Bool} (hf:f false false=false) {a b:Iv} (ha:NormI a) (hb:NormI b):NormI (combI f a b)∧(∀ t,memI (combI f a b) t=f (memI a t) (memI b t))∧(combI f a b).length≤a.length+b.length:=by
  have h:=comb_ok f _ (tog a) false (tog b) false [] (Nat.le_refl _) (tog_asc ha).1 (tog_asc hb).1 .nil (fun _ h=>by simp at h) (fun _ h=>by simp at h) hf.symm
  have hx:∀ x,parT (mcomb f (mrg (tog a) false (tog b) false) []) x=f (memI a x) (memI b x):=fun x=>by
    rw [h.hi x (fun _ h=>by simp at h),parT_tog ha,parT_tog hb,Bool.false_xor,Bool.false_xor]
  have hlen:=h.len
  rw [tog_len,tog_len] at hlen
  have hodd:oddB (mcomb f (mrg (tog a) false (tog b) false) []).length=false:=by
    obtain ⟨B,hB⟩:∃ B:Int,(∀ e∈mcomb f (mrg (tog a) false (tog b) false) [],e≤B)∧(∀ x∈a,x.2≤B)∧(∀ x∈b,x.2≤B):=by
      have hi:∀ E:List Int,∃ B,∀ e∈E,e≤B:=fun E=>by
        induction E with
        | nil=>exact ⟨0,by simp⟩
        | cons e E ih =>
          obtain ⟨B,h⟩:=ih
          exact ⟨max B e, fun x hx => by rcases List.mem_cons.1 hx with rfl | hx; · omega
                                         · have:=h x hx; omega⟩
      obtain ⟨B1,h1⟩:=hi (mcomb f (mrg (tog a) false (tog b) false) [])
      obtain ⟨B2,h2⟩:=hi (a.map Prod.snd)
      obtain ⟨B3,h3⟩:=hi (b.map Prod.snd)
      refine ⟨max B1 (max B2 B3),fun e he=>?_,fun x hx=>?_,fun x hx=>?_⟩
      · have:=h1 e he; omega
      · have:=h2 x.2 (List.mem_map.2 ⟨x,hx,rfl⟩); omega
      · have:=h3 x.2 (List.mem_map.2 ⟨x,hx,rfl⟩); omega
    obtain ⟨h1,h2,h3⟩:=hB
    rw [← parT_all h1,hx]
    have n1:memI a B=false:=by
      cases e:memI a B with
      | false=>rfl
      | true=>obtain ⟨x,hx,_,h5⟩:=memI_iff.1 e; have:=h2 x hx; omega
    have n2:memI b B=false:=by
      cases e:memI b B with
      | false=>rfl
      | true=>obtain ⟨x,hx,_,h5⟩:=memI_iff.1 e; have:=h3 x hx; omega
    rw [n1,n2,hf]
  obtain ⟨h1,h2⟩:=spans_norm hodd h.asc
  refine ⟨h1,fun t=>?_,?_⟩
  · show memI (spans (mcomb f (mrg (tog a) false (tog b) false) [])) t=_
    rw [← parT_tog h1,h2,hx]
  · unfold combI
    rw [spans_len];simp only [List.length_nil] at hlen;omega
def unionI (a b:Iv):Iv:=combI (fun x y=>x || y) a b
theorem unionI_eq {a b:Iv} (ha:NormI a) (hb:NormI b):insAll a b=unionI a b:=by
  obtain ⟨h1,h2,_⟩:=insAll_ok (b:=b) ha hb.1
  obtain ⟨h3,h4,_⟩:=combI_ok (f:=fun x y=>x || y) rfl ha hb
  exact normI_ext h1 h3 (fun t=>by rw [h2]; exact (h4 t).symm)
end Go.Step
namespace Go.Step
theorem oddB_cases (p:Nat):(oddB p=true∧p=2*(p / 2)+1)∨(oddB p=false∧p=2*(p / 2)):=by
  unfold oddB
  by_cases h:p % 2=1
  · exact .inl ⟨decide_eq_true h,by omega⟩
  · exact .inr ⟨decide_eq_false h,by omega⟩
def nxtT (A B:List Int) (p q:Nat):Int:=if p<A.length then (if q<B.length∧B.getD q 0<A.getD p 0 then B.getD q 0 else A.getD p 0) else B.getD q 0
def stp (A:List Int) (t:Int) (p:Nat):Nat:=if p<A.length∧A.getD p 0=t then p+1 else p
theorem stp_le {A:List Int} {t:Int} {p:Nat} (h:p≤A.length):p≤stp A t p∧stp A t p≤A.length:=by
  unfold stp
  split <;> omega
theorem drop_at {A:List Int} {p:Nat} (h:p<A.length):A.drop p=A.getD p 0::A.drop (p+1):=by
  rw [List.drop_eq_getElem_cons h,List.getD_eq_getElem?_getD,List.getElem?_eq_getElem h]; rfl
theorem mrg_cc (a:Int) (A:List Int) (p:Bool) (b:Int) (B:List Int) (q:Bool):mrg (a::A) p (b::B) q=if a<b then (a,!p,q)::mrg A (!p) (b::B) q else if b<a then (b,p,!q)::mrg (a::A) p B (!q) else (a,!p,!q)::mrg A (!p) B (!q):=by
  conv=>lhs; unfold mrg
theorem mrg_cn (a:Int) (A:List Int) (p q:Bool):mrg (a::A) p [] q=(a,!p,q)::mrg A (!p) [] q:=by
  conv=>lhs; unfold mrg
theorem mrg_nc (b:Int) (B:List Int) (p q:Bool):mrg [] p (b::B) q=(b,p,!q)::mrg [] p B (!q):=by
  conv=>lhs; unfold mrg
theorem mrg_at {A B:List Int} {p q:Nat} (hp:p≤A.length) (hq:q≤B.length) (h:p<A.length∨q<B.length) :
    mrg (A.drop p) (oddB p) (B.drop q) (oddB q)=(nxtT A B p q,oddB (stp A (nxtT A B p q) p),oddB (stp B (nxtT A B p q) q))::mrg (A.drop (stp A (nxtT A B p q) p)) (oddB (stp A (nxtT A B p q) p)) (B.drop (stp B (nxtT A B p q) q)) (oddB (stp B (nxtT A B p q) q)):=by
  by_cases h1:p<A.length
  · by_cases h2:q<B.length
    · rw [drop_at h1,drop_at h2,mrg_cc]
      by_cases c1:A.getD p 0<B.getD q 0
      · have e:nxtT A B p q=A.getD p 0:=by unfold nxtT; rw [if_pos h1,if_neg (by omega)]
        have e1:stp A (A.getD p 0) p=p+1:=by unfold stp; rw [if_pos ⟨h1,rfl⟩]
        have e2:stp B (A.getD p 0) q=q:=by unfold stp; rw [if_neg (by omega)]
        rw [if_pos c1,e,e1,e2,oddB_succ,drop_at h2]
      · by_cases c2:B.getD q 0<A.getD p 0
        · have e:nxtT A B p q=B.getD q 0:=by unfold nxtT; rw [if_pos h1,if_pos ⟨h2,c2⟩]
          have e1:stp A (B.getD q 0) p=p:=by unfold stp; rw [if_neg (by omega)]
          have e2:stp B (B.getD q 0) q=q+1:=by unfold stp; rw [if_pos ⟨h2,rfl⟩]
          rw [if_neg c1,if_pos c2,e,e1,e2,oddB_succ,drop_at h1]
        · have e:nxtT A B p q=A.getD p 0:=by unfold nxtT; rw [if_pos h1,if_neg (by omega)]
          have e1:stp A (A.getD p 0) p=p+1:=by unfold stp; rw [if_pos ⟨h1,rfl⟩]
          have e2:stp B (A.getD p 0) q=q+1:=by unfold stp; rw [if_pos ⟨h2,by omega⟩]
          rw [if_neg c1,if_neg c2,e,e1,e2,oddB_succ,oddB_succ]
    · have hq2:q=B.length:=by omega
      subst hq2
      have e:nxtT A B p B.length=A.getD p 0:=by unfold nxtT; rw [if_pos h1,if_neg (by omega)]
      have e1:stp A (A.getD p 0) p=p+1:=by unfold stp; rw [if_pos ⟨h1,rfl⟩]
      have e2:stp B (A.getD p 0) B.length=B.length:=by unfold stp; rw [if_neg (by omega)]
      rw [drop_at h1,List.drop_length,e,e1,e2,oddB_succ,List.drop_length,mrg_cn]
  · have hp2:p=A.length:=by omega
    subst hp2
    have h2:q<B.length:=by omega
    have e:nxtT A B A.length q=B.getD q 0:=by unfold nxtT; rw [if_neg h1]
    have e1:stp A (B.getD q 0) A.length=A.length:=by unfold stp; rw [if_neg (by omega)]
    have e2:stp B (B.getD q 0) q=q+1:=by unfold stp; rw [if_pos ⟨h2,rfl⟩]
    rw [drop_at h2,List.drop_length,e,e1,e2,oddB_succ,List.drop_length,mrg_nc]
theorem stp_go {A B:List Int} {p q:Nat} (h:p<A.length∨q<B.length):p<stp A (nxtT A B p q) p∨q<stp B (nxtT A B p q) q:=by
  by_cases h1:p<A.length
  · by_cases h2:q<B.length∧B.getD q 0<A.getD p 0
    · have e:nxtT A B p q=B.getD q 0:=by unfold nxtT; rw [if_pos h1,if_pos h2]
      right; rw [e]; unfold stp; rw [if_pos ⟨h2.1,rfl⟩]; omega
    · have e:nxtT A B p q=A.getD p 0:=by unfold nxtT; rw [if_pos h1,if_neg h2]
      left; rw [e]; unfold stp; rw [if_pos ⟨h1,rfl⟩]; omega
  · have e:nxtT A B p q=B.getD q 0:=by unfold nxtT; rw [if_neg h1]
    right; rw [e]; unfold stp; rw [if_pos ⟨by omega,rfl⟩]; omega
theorem mrg_len:∀ (n:Nat) (A:List Int) (p:Bool) (B:List Int) (q:Bool),A.length+B.length≤n→(mrg A p B q).length≤A.length+B.length
  | n,[],p,[],q,_=>by unfold mrg; simp
  | 0,a::A,p,B,q,h=>by simp at h
  | 0,[],p,b::B,q,h=>by simp at h
  | n+1,a::A,p,[],q,h=>by
    rw [mrg_cn]
    have:=mrg_len n A (!p) [] q (by simp at h ⊢; omega)
    simp at this ⊢
    omega
  | n+1,[],p,b::B,q,h=>by
    rw [mrg_nc]
    have:=mrg_len n [] p B (!q) (by simp at h ⊢; omega)
    simp at this ⊢
    omega
  | n+1,a::A,p,b::B,q,h=>by
    rw [mrg_cc]
    have h1:=mrg_len n A (!p) (b::B) q (by simp at h ⊢; omega)
    have h2:=mrg_len n (a::A) p B (!q) (by simp at h ⊢; omega)
    have h3:=mrg_len n A (!p) B (!q) (by simp at h ⊢; omega)
    simp at h1 h2 h3
    split
    · simp; omega
    · split <;> simp <;> omega
theorem mcomb1_len (f:Bool→Bool→Bool) (O:List Int) (e:Int × Bool × Bool):(mcomb1 f O e).length≤O.length+1:=by
  unfold mcomb1
  split
  · omega
  · simp
theorem mcomb_len (f:Bool→Bool→Bool):∀ (S:List (Int × Bool × Bool)) (O:List Int),(mcomb f S O).length≤O.length+S.length
  | [],O=>by simp [mcomb]
  | e::S,O=>by
    have h1:=mcomb_len f S (mcomb1 f O e)
    have h2:=mcomb1_len f O e
    show (mcomb f S (mcomb1 f O e)).length≤_
    simp
    omega
theorem mcomb_next (f:Bool→Bool→Bool) {S:List (Int × Bool × Bool)} {i:Nat} {e:Int × Bool × Bool} (h:S[i]?=some e) (O:List Int):mcomb f (S.take (i+1)) O=mcomb1 f (mcomb f (S.take i) O) e:=by
  obtain ⟨hi,rfl⟩:=List.getElem?_eq_some_iff.1 h
  rw [List.take_succ_eq_append_getElem hi];unfold mcomb;rw [List.foldl_append]
  rfl
theorem mrg_end {A B:List Int} {p q:Bool}:mrg (A.drop A.length) p (B.drop B.length) q=[]:=by
  rw [List.drop_length,List.drop_length];unfold mrg
  rfl
theorem drop_head {α:Type} {S:List α} {k:Nat} {x:α} {r:List α} (h:S.drop k=x::r):S[k]?=some x∧S.drop (k+1)=r∧k<S.length:=by
  have hk:k<S.length:=by
    apply Nat.lt_of_not_le
    intro hc
    rw [List.drop_eq_nil_of_le hc] at h
    simp at h
  rw [List.drop_eq_getElem_cons hk,List.cons.injEq] at h
  exact ⟨by rw [List.getElem?_eq_getElem hk,h.1],h.2,hk⟩
end Go.Step
