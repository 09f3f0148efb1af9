/- Texts of this proof, one after the other; no conditions. -/
import Derived.Test.YtphehihohghfoaaGreatWB7
import Derived.Test.YtphehihohghfoaaGreatWB3
import Derived.Test.YtphehihohghfoaaGreatWB6
import Derived.Test.YtphehihohghfoaaGreatWB5
import Derived.Test.YtphehihohghfoaaGreatWB2
import Derived.Test.YtphehihohghfoaaGreatWB1
set_option linter.all false
/- Value, of the program and of the reference. -/
namespace Go.Proofs.YtphehihohghfoaaGreat
open Go.Eng Go.Flow
set_option maxRecDepth 100000
set_option maxHeartbeats 4000000

theorem balanced_of {n:Nat} {l:List Arc} {fl:List Int} {s t:Int} (h:∀ v:Nat,v < n → (v:Int) = s ∨ (v:Int) = t ∨ fval v l fl = 0):balanced n l fl s t = true:=by
 unfold balanced;rw [List.all_eq_true]
 intro v hv
 rw [decide_eq_true_eq]
 exact h v (by simpa using hv)
theorem balanced_not {n:Nat} {l:List Arc} {fl:List Int} {s t:Int} {v:Nat} (hv:v < n) (h1:(v:Int) ≠ s) (h2:(v:Int) ≠ t) (h3:fval v l fl ≠ 0):balanced n l fl s t = false:=by
 cases h:balanced n l fl s t with
 | false=>rfl
 | true =>
  unfold balanced at h;rw [List.all_eq_true] at h
  have:=h v (by simpa using hv)
  rw [decide_eq_true_eq] at this
  exact absurd this (by simp [h1,h2,h3])
theorem inCap_take_false {l:List Arc} {fl:List Int} {k:Nat} (hk:k < l.length) (hfl:fl.length = l.length) (h:¬ (0 ≤ fl[k] ∧ fl[k] ≤ l[k].c)):inCap l fl = false:=by
 cases hc:inCap l fl with
 | false=>rfl
 | true=>exact absurd (inCap_get l fl hc k l[k] fl[k] (List.getElem?_eq_getElem hk) (List.getElem?_eq_getElem (by omega))) h

theorem flowValue_spec (ρ σ:PH) (v u:Value) (n s t:Int) (l:List Arc) (fl:List Int) (hv:ArcsAt ρ v l) (hu:IntsAt σ u fl) (hl:l.length ≤ 1000000) :
    Ans Tryz.prog (fv 64) [int n,v,u,int s,int t] [ρ,σ] (fun r=>r = .tuple #[int (valueSpec n l fl s t).1,int (valueSpec n l fl s t).2]):=by
  obtain ⟨q,c,rfl,hr⟩:=hv.val encA_len
  obtain ⟨q2,c2,rfl,hr2⟩:=hu.val Eng.encI_len
  refine spec_in (cap:=[]) Tryz.func64 rfl rfl Tryz.ntmps64 rfl envZ (fun N β=>?_)
  refine Acf ?_;refine Ab6 ?_
  focus ((refine A3 (check_spec ρ _ n l hv hl) rfl rfl rdZ rfl rfl ?_; rintro _ rfl))
  refine Ab ?_
  by_cases hc:chk n l = 0
  rotate_left
  · refine CG ?_
    refine Aag ?_;refine Adu ?_;refine AI (res2 rfl rfl rfl) rsubZ selZ ⟨rfl,?_⟩;unfold valueSpec; rw [if_pos hc]
  obtain ⟨a1,a2,a3,hok⟩:=chk_ok hc
  obtain ⟨n,rfl⟩:=Int.eq_ofNat_of_zero_le a1
  by_cases he:okEnds n s t = true
  rotate_left
  · have he':okEnds n s t = false:=by simpa using he
    refine Abc ?_;refine Aam ?_;refine Aax ?_
    focus ((refine A3 (ends_spec n s t) rfl rfl rdZ rfl rfl ?_; rintro _ rfl; rw [he',if_neg (by simp)]))
    refine Ab ?_;refine Acm ?_;refine Adu ?_;refine AI (res2 rfl rfl rfl) rsubZ selZ ⟨rfl,?_⟩
    unfold valueSpec; rw [if_neg (by rw [hc]; simp),if_pos he']
  obtain ⟨s1,s2,t1,t2,st⟩:=okEnds_iff.1 he
  refine Abc ?_;refine Aam ?_;refine Aax ?_
  focus ((refine A3 (ends_spec n s t) rfl rfl rdZ rfl rfl ?_; rintro _ rfl; rw [he,if_pos rfl]))
  refine Ab ?_;refine Ad7 ?_;refine AB ?_;refine AX ?_
  by_cases hfl:fl.length = l.length
  rotate_left
  · refine CG ?_
    refine Aag ?_;refine Acf ?_;refine AI (res2 rfl rfl rfl) rsubZ selZ ⟨rfl,?_⟩
    unfold valueSpec; rw [if_neg (by rw [hc]; simp),if_neg (by rw [he]; simp),if_pos hfl]
  refine Abc ?_;refine Aad ?_;refine DR ?_; rintro _ _ ⟨b,rfl,rfl⟩;refine Aab ?_;refine Ab8 ?_
  rw [show List.replicate n (0:Int) = negL (netL n [] []) from by rw [netL_nil]; simp [negL]]
  refine BC [0,1,2,3,4,14,39,40] (0:Nat) (fun k=>k ≤ l.length ∧ inCap (l.take k) (fl.take k) = true) (fun k=>[(41,int k)]) (fun k=>[sng b (.cells (ints (negL (netL n (l.take k) (fl.take k)))) 3 (0,0))]) (fun k=>l.length - k) pickZ ⟨by omega,by simp [inCap]⟩ covZ selZ ?_
  rintro k ⟨hk,hy⟩
  by_cases hlt:k < l.length
  · have hltf:k < fl.length:=by omega
    obtain ⟨b',o,rfl,hA,h0,h1,h2⟩:=arcRow hr (List.getElem?_eq_getElem hlt)
    obtain ⟨b2,o2,rfl,f0⟩:=hr2.int (List.getElem?_eq_getElem hltf)
    obtain ⟨g1,g2,g3,g4,g5,g6,g7⟩:=okArc_iff.1 (hok l[k] (List.getElem_mem hlt))
    by_cases hin:0 ≤ fl[k] ∧ fl[k] ≤ l[k].c
    rotate_left
    · have hvs:valueSpec n l fl s t = (0,2):=by
        unfold valueSpec
        rw [if_neg (by rw [hc]; simp),if_neg (by rw [he]; simp),if_neg (by simpa using hfl),if_pos (inCap_take_false hlt hfl hin)]
      rcases (show fl[k] < 0 ∨ (0 ≤ fl[k] ∧ l[k].c < fl[k]) by omega) with hin' | hin'
      all_goals
        refine Adi ?_;refine AW ?_; rintro _ _ ⟨b,rfl,rfl⟩;refine AD ?_;refine AV ?_; rintro _ _ ⟨rfl,rfl⟩;refine Aak ?_;refine AC ?_
        refine A5 (.q 0 (.q 1 (.q 2 (.q 3 (.q 4 (.q 5 (.q 6 (.q 7 (.q 8 (.q 9 (.q 10 (.q 11 (.q 12 (.q 13 .nil)))))))))))))) [] rfl (by kernel_rfl) selZ ?_
        repeat' (first
          | (refine AR ?_)
          | (refine AQ ?_)
          | (refine AU ?_)
          | (refine C1 ?_)
          | (refine BW ?_)
          | (refine BN ?_)
          | (refine E7 ?_)
          | (refine DE ?_)
          | (refine DY ?_)
          | (refine A0 rfl rfl rfl rfl rfl ?_)
          | (refine A6 ?_)
          | fail)
        refine AM rfl ?_;refine Acf ?_
        exact AI (res2 rfl rfl rfl) rsubZ selZ ⟨rfl,by rw [hvs]⟩
    obtain ⟨f,hf⟩:=Int.eq_ofNat_of_zero_le g1
    obtain ⟨t',ht⟩:=Int.eq_ofNat_of_zero_le g3
    rw [hf,ht] at hA g5;rw [hf] at g2;rw [ht] at g4
    have hst:(l.take k).length = (fl.take k).length:=by simp; omega
    have hlen:(fl.take k).length = k:=by simp; omega
    have hnet:=netL_snoc (n:=n) (l:=l.take k) (fl:=fl.take k) (a:=l[k]) (x:=fl[k]) hst hf ht (by omega)
    rw [← take_snoc' hlt,← take_snoc' hltf] at hnet
    have hsm:small (fl.take k):=inCap_small _ _ hst hy (fun a ha=>hok a (List.mem_of_mem_take ha))
    have b1:=fval_bd f (l.take k) (fl.take k) hsm
    have b2':=fval_bd t' (l.take k) (fl.take k) hsm
    rw [hlen] at b1 b2'
    generalize hE:negL (netL n (l.take k) (fl.take k)) = E
    have hEl:E.length = n:=by rw [← hE,negL_len,netL_len]
    have e1:E.getD f 0 = -(fval f (l.take k) (fl.take k)):=by rw [← hE,negL_get (by rw [netL_len]; omega),netL_get (by omega)]
    have e2:E.getD t' 0 = -(fval t' (l.take k) (fl.take k)):=by rw [← hE,negL_get (by rw [netL_len]; omega),netL_get (by omega)]
    have e3:(E.set f (E.getD f 0 - fl[k])).getD t' 0 = E.getD t' 0:=by
      rw [List.getD_eq_getElem?_getD,List.getElem?_set_ne (by omega),← List.getD_eq_getElem?_getD]
    have e4:(E.set f (E.getD f 0 - fl[k])).length = n:=by simp [hEl]
    refine Adi ?_;refine AW ?_; rintro _ _ ⟨b,rfl,rfl⟩;refine AD ?_;refine AV ?_; rintro _ _ ⟨rfl,rfl⟩;refine Aak ?_;refine AC ?_
    refine A5 (.q 0 (.q 1 (.q 2 (.q 3 (.q 4 (.q 5 (.q 6 (.q 7 (.q 8 (.q 9 (.q 10 (.q 11 (.q 12 (.q 13 .nil)))))))))))))) [] rfl (by kernel_rfl) selZ ?_
    refine Aa6 ?_;refine C1 ?_;refine AQ ?_;refine DE ?_;refine Aa6 ?_;refine AR ?_;refine C1 ?_;refine AQ ?_;refine Aaq ?_;refine C3 ?_;refine BN ?_;refine Aee ?_
    refine A5 (.q 0 (.q 1 (.q 2 (.q 3 (.q 4 (.q 5 (.q 6 (.q 7 (.q 8 (.q 9 (.q 10 (.l 11 .b .nil)))))))))))) [] rfl (by kernel_rfl) selZ ?_
    refine Acn ?_;refine Adn ?_;refine Aa6 ?_;refine C1 ?_;refine AQ ?_;refine EL ?_;refine CB ?_;refine DX ?_; rintro _ _ ⟨rfl,rfl⟩;refine A6 ?_
    skip
    refine A5 (.q 0 (.q 1 (.q 2 (.q 3 (.q 4 (.q 5 (.q 6 (.q 7 (.q 8 (.q 9 (.q 10 (.l 11 .b .nil)))))))))))) [] rfl (by kernel_rfl) selZ ?_
    refine Acn ?_;refine Adn ?_;refine Aa6 ?_;refine C1 ?_;refine AQ ?_;refine CY ?_;refine CB ?_;refine DX ?_; rintro _ _ ⟨rfl,rfl⟩;refine A6 ?_;refine Aa4 ?_
    refine AZ (k + 1) ⟨by omega,?_⟩ (by omega) covZ ?_
    · rw [take_snoc' hlt,take_snoc' hltf,inCap_snoc _ _ _ _ hst,hy]
      simp; omega
    · rw [hnet,negL_set,negL_set,hE]
      rw [show -(fval f (l.take k) (fl.take k) + fl[k]) = E.getD f 0 - fl[k] from by omega]
      rw [show -(fval t' (l.take k) (fl.take k) - fl[k]) = (E.set f (E.getD f 0 - fl[k])).getD t' 0 + fl[k] from by rw [e3]; omega]
      exact selZ
  obtain rfl:k = l.length:=by omega
  rw [List.take_length,List.take_of_length_le (by omega)] at hy
  rw [List.take_length,List.take_of_length_le (by omega)]
  have hsm:small fl:=inCap_small _ _ hfl.symm hy hok
  generalize hE:negL (netL n l fl) = E
  have hEl:E.length = n:=by rw [← hE,negL_len,netL_len]
  refine Abt ?_;refine Ab8 ?_
  refine BC [1,2,3,4,83,84] (0:Nat) (fun k=>k ≤ n ∧ ∀ v:Nat,v < k → (v:Int) = s ∨ (v:Int) = t ∨ fval v l fl = 0) (fun k=>[(85,int k)]) (fun _=>[sng b (.cells (ints E) 3 (0,0))]) (fun k=>n - k) pickZ ⟨by omega,by simp⟩ covZ selZ ?_
  rintro k ⟨hk,hz⟩
  by_cases hlt:k < n
  · have e1:E.getD k 0 = -(fval k l fl):=by rw [← hE,negL_get (by rw [netL_len]; omega),netL_get (by omega)]
    repeat' (first
      | (refine AB ?_)
      | (refine AD ?_)
      | (refine AF ?_)
      | (refine BT ?_)
      | (refine AL ?_)
      | (refine AJ ?_)
      | (refine BA ?_)
      | (refine A9 ?_)
      | (refine AC ?_)
      | (refine AA ?_)
      | (refine AE ?_)
      | (refine AP ?_)
      | (refine A4 ?_)
      | (refine AK ?_)
      | (refine AM rfl ?_)
      | (refine AN rfl ?_)
      | (refine AG rfl rfl rfl ?_)
      | (focus ((refine B8 rfl rfl (cmp_ne _ _) rfl rfl (fun h=>?_) (fun h=>?_))))
      | fail)
    all_goals first
      | (refine AZ (k + 1) ⟨by omega,fun v hv=>?_⟩ (by omega) covZ selZ
         rcases Nat.lt_or_ge v k with hv' | hv'
         · exact hz v hv'
         · obtain rfl:v = k:=by omega
           omega)
      | (refine AI (res2 rfl rfl rfl) rsubZ selZ ⟨rfl,?_⟩
         have hb:=balanced_not (l:=l) (fl:=fl) (s:=s) (t:=t) hlt (by omega) (by omega) (by omega)
         unfold valueSpec
         rw [if_neg (by rw [hc]; simp),if_neg (by rw [he]; simp),if_neg (by simpa using hfl),if_neg (by rw [hy]; simp),Int.toNat_natCast,if_pos hb])
  · refine AC ?_
    refine Adz ?_;refine Aad ?_;refine Aax ?_
    focus ((refine A3 (value_spec ρ σ _ _ s l fl hv hu a3 hfl hsm) rfl rfl rdZ rfl rfl ?_; rintro _ rfl))
    refine Aan ?_;refine AI (res2 rfl rfl rfl) rsubZ selZ ⟨rfl,?_⟩
    have hb:=balanced_of (n:=n) (l:=l) (fl:=fl) (s:=s) (t:=t) (fun v hv=>hz v (by omega))
    unfold valueSpec
    rw [if_neg (by rw [hc]; simp),if_neg (by rw [he]; simp),if_neg (by simpa using hfl),if_neg (by rw [hy]; simp),Int.toNat_natCast,if_neg (by rw [hb]; simp)]

end Go.Proofs.YtphehihohghfoaaGreat
/- Flows of time-expanded networks, and stocks. No program in sight. No conditions. -/
namespace Go.Step
open Go.Flow (Flw fval netB netB_eq inCap sumTo sumTo_zero sumTo_one okArc_iff)
def shipsF:List EA → List Int → List Sh
  | x :: L,y :: fl=>(if 0 ≤ x.c ∧ 0 < y then [⟨x.c,x.t,y⟩] else []) ++ shipsF L fl
  | _,_=>[]
section
variable {qs:List Int} {cs:List Ct} {bs:List Bk} {hs:List Hd} {d:Dm}
def bq (d:Dm) (P:Int → Int → Bool) (v:Nat):Bool:=P ((v:Int) / wd d) (d.r + (v:Int) % wd d)
theorem bq_vtx {d:Dm} {P:Int → Int → Bool} {n t:Int} (h0:0 ≤ n) (h1:d.r ≤ t) (h2:t ≤ d.e):bq d P (vtx d n t).toNat = P n t:=by
  have hp:0 ≤ vtx d n t:=by
    unfold vtx
    have:=Int.mul_nonneg h0 (show 0 ≤ wd d by unfold wd; omega)
    omega
  unfold bq;rw [Int.toNat_of_nonneg hp,vtx_div h1 h2,vtx_mod h1 h2]
  congr 1
  omega
end
end Go.Step
/- The paths of a flow; greater capacities; arcs turned round. No program in sight. No conditions. -/
namespace Go.Flow
def plFrom:Nat → List Arc → List Lk
  | _,[]=>[]
  | i,a :: l=>⟨i,a.f.toNat,a.t.toNat⟩ :: plFrom (i + 1) l
def plinks (l:List Arc):List Lk:=plFrom 0 l
theorem plFrom_snoc (a:Arc):∀ (l:List Arc) (i:Nat),plFrom i (l ++ [a]) = plFrom i l ++ [(⟨i + l.length,a.f.toNat,a.t.toNat⟩:Lk)]
  | [],i=>by simp [plFrom]
  | b :: l,i=>by
    simp only [List.cons_append,plFrom];rw [plFrom_snoc a l (i + 1)];simp only [List.length_cons]
    rw [show i + 1 + l.length = i + (l.length + 1) from by omega]
theorem plinks_snoc (l:List Arc) (a:Arc):plinks (l ++ [a]) = plinks l ++ [(⟨l.length,a.f.toNat,a.t.toNat⟩:Lk)]:=by
  unfold plinks; rw [plFrom_snoc]; simp
theorem plFrom_len:∀ (l:List Arc) (i:Nat),(plFrom i l).length = l.length
  | [],_=>rfl
  | a :: l,i=>by simp [plFrom,plFrom_len l (i + 1)]
theorem plinks_len (l:List Arc):(plinks l).length = l.length:=plFrom_len l 0
theorem plFrom_get:∀ (l:List Arc) (i j:Nat),(plFrom i l)[j]? = (l[j]?).map (fun a=>(⟨i + j,a.f.toNat,a.t.toNat⟩:Lk))
  | [],i,j=>by simp [plFrom]
  | b :: l,i,j=>by
    cases j with
    | zero=>simp [plFrom]
    | succ j =>
      simp only [plFrom,List.getElem?_cons_succ]
      rw [plFrom_get l (i + 1) j,show i + 1 + j = i + (j + 1) from by omega]
theorem plinks_get (l:List Arc) (j:Nat):(plinks l)[j]? = (l[j]?).map (fun a=>(⟨j,a.f.toNat,a.t.toNat⟩:Lk)):=by
  unfold plinks; rw [plFrom_get]; simp
theorem plinks_iff {l:List Arc} {x:Lk}:x ∈ plinks l ↔ ∃ j a,l[j]? = some a ∧ x = ⟨j,a.f.toNat,a.t.toNat⟩:=by
  rw [List.mem_iff_getElem?]
  constructor
  · rintro ⟨j,hj⟩
    rw [plinks_get,Option.map_eq_some_iff] at hj
    obtain ⟨a,ha,rfl⟩:=hj
    exact ⟨j,a,ha,rfl⟩
  · rintro ⟨j,a,ha,rfl⟩
    exact ⟨j,by rw [plinks_get,ha]; rfl⟩
theorem pl_lt {n:Nat} {l:List Arc} (hok:∀ a ∈ l,okArc n a = true):∀ x ∈ plinks l,x.f < n ∧ x.t < n:=fun x hx=>by
  obtain ⟨j,a,ha,rfl⟩:=plinks_iff.1 hx
  have:=okArc_iff.1 (hok a (List.mem_of_getElem? ha))
  dsimp only; omega
theorem pl_k {l:List Arc} {x:Lk} (hx:x ∈ plinks l):x.k < l.length:=by
  obtain ⟨j,a,ha,rfl⟩:=plinks_iff.1 hx
  exact (List.getElem?_eq_some_iff.1 ha).1
def rmP (rest:List Int) (k:Nat):Int:=rest.getD k 0
def subP (room:Int) (rest:List Int) (x:Lk):List Int:=rest.set x.k (rest.getD x.k 0 - room)
def subAll (room:Int) (rest:List Int) (p:List Lk):List Int:=p.foldl (subP room) rest
theorem subP_len (room:Int) (rest:List Int) (x:Lk):(subP room rest x).length = rest.length:=by simp [subP]
theorem subAll_len (room:Int):∀ (p:List Lk) (rest:List Int),(subAll room rest p).length = rest.length
  | [],rest=>rfl
  | x :: p,rest=>by
    have:=subAll_len room p (subP room rest x)
    rw [subP_len] at this;exact this
theorem subAll_snoc (room:Int) (fl:List Int) (p:List Lk) (x:Lk):subAll room fl (p ++ [x]) = subP room (subAll room fl p) x:=by simp [subAll]
theorem subP_ok {n:Nat} {l:List Arc} {fl:List Int} {x:Lk} {room:Int} (hok:∀ a ∈ l,okArc n a = true) (hl:l.length = fl.length) (hc:inCap l fl = true) (hx:x ∈ plinks l) (h0:0 ≤ room) (hr:room ≤ rmP fl x.k) :
    inCap l (subP room fl x) = true ∧ (∀ v:Nat,fval v l (subP room fl x) = fval v l fl - ((if x.f = v then room else 0) - (if x.t = v then room else 0))) ∧ ∀ k,k ≠ x.k → rmP (subP room fl x) k = rmP fl k:=by
  obtain ⟨j,a,ha,rfl⟩:=plinks_iff.1 hx
  have hjl:j < l.length:=(List.getElem?_eq_some_iff.1 ha).1
  have hfj:fl[j]? = some (fl.getD j 0):=by simp [List.getD_eq_getElem?_getD,show j < fl.length by omega]
  have hin:=inCap_get l fl hc j a _ ha hfj
  obtain ⟨g1,g2,g3,g4,g5,g6,g7⟩:=okArc_iff.1 (hok a (List.mem_of_getElem? ha))
  unfold rmP at hr
  dsimp only at hr
  refine ⟨?_,?_,fun k hk=>?_⟩
  · unfold subP
    exact inCap_set l fl j a _ ha hc (by dsimp only; omega) (by dsimp only; omega)
  · intro v
    unfold subP
    dsimp only
    rw [fval_set v l fl j a _ ha hl]
    have e1:(a.f = (v:Int)) ↔ (a.f.toNat = v):=by omega
    have e2:(a.t = (v:Int)) ↔ (a.t.toNat = v):=by omega
    simp only [e1,e2]
    split <;> split <;> omega
  · unfold rmP subP
    exact getD_set' (Ne.symm hk)
theorem subAll_ok {n:Nat} {l:List Arc} {room:Int} (hok:∀ a ∈ l,okArc n a = true) (h0:0 ≤ room) {E:Lk → Prop} (hE:∀ x,E x → x ∈ plinks l) {u w:Nat} {p:List Lk} (hp:Chn E u p w) :
    ∀ (fl:List Int),l.length = fl.length → inCap l fl = true → p.Pairwise (fun x y=>x.k ≠ y.k) → (∀ x ∈ p,room ≤ rmP fl x.k) →
    inCap l (subAll room fl p) = true ∧ ∀ v:Nat,fval v l (subAll room fl p) = fval v l fl - ((if u = v then room else 0) - (if w = v then room else 0)):=by
  induction hp with
  | nil=>intro fl _ hc _ _; exact ⟨hc,fun v=>by simp [subAll]⟩
  | @cons x u p w hf hx _ ih =>
    intro fl hl hc hpw hr
    rw [List.pairwise_cons] at hpw
    obtain ⟨s1,s2,s3⟩:=subP_ok hok hl hc (hE x hx) h0 (hr x (by simp))
    obtain ⟨r1,r2⟩:=ih (subP room fl x) (by rw [subP_len]; exact hl) s1 hpw.2 (fun y hy=>by rw [s3 y.k (Ne.symm (hpw.1 y hy))]; exact hr y (by simp [hy]))
    refine ⟨r1,fun v=>?_⟩
    have:=r2 v
    rw [s2 v] at this
    show fval v l (subAll room (subP room fl x) p) = _
    rw [this,hf]
    split <;> split <;> split <;> omega
abbrev pE (l:List Arc) (fl:List Int):Lk → Prop:=opn (plinks l) (rmP fl)
abbrev pP (l:List Arc) (fl:List Int) (D:List Int) (s:Nat):List Lk:=pathD (nxt (plinks l) (rmP fl) D) D s
abbrev pRoom (l:List Arc) (fl:List Int) (D:List Int) (s:Nat):Int:=leastR (rmP fl) (pP l fl D s)
abbrev pNext (l:List Arc) (fl:List Int) (D:List Int) (s:Nat):List Int:=subAll (pRoom l fl D s) fl (pP l fl D s)
section
variable {n s t:Nat} {l:List Arc}
theorem pP_arcs (hok:∀ a ∈ l,okArc n a = true) (hs:s < n) {fl D:List Int} (hD:IsDist n t (pE l fl) D) (h0:0 ≤ D.getD s 0):(pP l fl D s).Pairwise (fun x y=>x.k ≠ y.k):=by
  obtain ⟨k,hk⟩:=Int.eq_ofNat_of_zero_le h0
  have hp:=path_sorted (pl_lt hok) hD k s hs hk
  have hc:=(path_chn (pl_lt hok) hD k s hs hk).all
  refine List.Pairwise.imp_of_mem (fun {x y} hx hy hxy e=>?_) hp
  obtain ⟨i,a,ha,rfl⟩:=plinks_iff.1 (hc x hx).1.1
  obtain ⟨j,b,hb,rfl⟩:=plinks_iff.1 (hc y hy).1.1
  dsimp only at e hxy
  subst e;rw [ha] at hb
  obtain rfl:=Option.some.inj hb
  omega
theorem pNext_ok (hok:∀ a ∈ l,okArc n a = true) (hs:s < n) (hst:s ≠ t) {fl D:List Int} (hf:Flw n l s t fl) (hD:IsDist n t (pE l fl) D) (h0:0 ≤ D.getD s 0) :
    Flw n l s t (pNext l fl D s) ∧ 0 < pRoom l fl D s ∧ fval s l (pNext l fl D s) = fval s l fl - pRoom l fl D s:=by
  obtain ⟨k,hk⟩:=Int.eq_ofNat_of_zero_le h0
  have hch:=path_chn (pl_lt hok) hD k s hs hk
  have hpos:0 < pRoom l fl D s:=leastR_pos _ _ _ (by omega) (fun x hx=>(hch.all x hx).1.2)
  obtain ⟨r1,r2⟩:=subAll_ok hok (Int.le_of_lt hpos) (E:=fun x=>pE l fl x ∧ D.getD x.t 0 = D.getD x.f 0 - 1 ∧ D.getD x.f 0 ≤ k) (fun x hx=>hx.1.1) hch fl hf.len hf.cap (pP_arcs hok hs hD h0) (fun x hx=>(leastR_le _ _ _).2 x hx)
  refine ⟨⟨by rw [subAll_len]; exact hf.len,r1,fun v hv h1 h2=>?_⟩,hpos,?_⟩
  · rw [r2 v,if_neg (Ne.symm h1),if_neg (Ne.symm h2),hf.bal v hv h1 h2]; rfl
  · rw [r2 s,if_pos rfl,if_neg (Ne.symm hst)]; omega
theorem pTake_cap (hok:∀ a ∈ l,okArc n a = true) (hs:s < n) {fl D:List Int} (hf:Flw n l s t fl) (hD:IsDist n t (pE l fl) D) (h0:0 ≤ D.getD s 0) (i:Nat) :
    inCap l (subAll (pRoom l fl D s) fl ((pP l fl D s).take i)) = true:=by
  obtain ⟨k,hk⟩:=Int.eq_ofNat_of_zero_le h0
  have hch:=path_chn (pl_lt hok) hD k s hs hk
  have hpos:0 < pRoom l fl D s:=leastR_pos _ _ _ (by omega) (fun x hx=>(hch.all x hx).1.2)
  obtain ⟨w,hw⟩:=hch.take i
  exact (subAll_ok hok (Int.le_of_lt hpos) (E:=fun x=>pE l fl x ∧ D.getD x.t 0 = D.getD x.f 0 - 1 ∧ D.getD x.f 0 ≤ k) (fun x hx=>hx.1.1) hw fl hf.len hf.cap ((pP_arcs hok hs hD h0).sublist (List.take_sublist _ _)) (fun x hx=>(leastR_le _ _ _).2 x (List.mem_of_mem_take hx))).1
end
inductive RunP (n:Nat) (l:List Arc) (s t:Nat):List Int → List (List Lk × Int) → List Int → Prop
  | done {fl D:List Int}:IsDist n t (pE l fl) D → D.getD s 0 < 0 → RunP n l s t fl [] fl
  | step {fl D r:List Int} {ps:List (List Lk × Int)}:IsDist n t (pE l fl) D → 0 ≤ D.getD s 0 → RunP n l s t (pNext l fl D s) ps r → RunP n l s t fl ((pP l fl D s,pRoom l fl D s) :: ps) r
theorem RunP.uniq {n s t:Nat} {l:List Arc} (hok:∀ a ∈ l,okArc n a = true) {fl F G:List Int} {ps qs:List (List Lk × Int)} (h1:RunP n l s t fl ps F) (h2:RunP n l s t fl qs G):ps = qs ∧ F = G:=by
  have hE:∀ fl x,pE l fl x → x.f < n ∧ x.t < n:=fun fl x hx=>pl_lt hok x hx.1
  induction h1 generalizing G qs with
  | done hD hn =>
    cases h2 with
    | done=>exact ⟨rfl,rfl⟩
    | step hD2 h0 _=>rw [hD.uniq (hE _) hD2] at hn; omega
  | step hD h0 _ ih =>
    cases h2 with
    | done hD2 hn=>rw [hD.uniq (hE _) hD2] at h0; omega
    | step hD2 _ hr =>
      have e:=hD.uniq (hE _) hD2
      subst e
      obtain ⟨e1,e2⟩:=ih hr
      exact ⟨by rw [e1],e2⟩
section
variable {n s t:Nat} {l:List Arc}
theorem net_le0 (B:Nat → Bool):∀ (l:List Arc) (fl:List Int),inCap l fl = true → (∀ (i:Nat) (a:Arc) (x:Int),l[i]? = some a → fl[i]? = some x → B a.f.toNat = true → B a.t.toNat = false → x = 0) → netB B l fl ≤ 0
  | [],_,_,_=>by simp [netB]
  | _ :: _,[],_,_=>by simp [netB]
  | a :: l,x :: fl,h,hz=>by
    simp only [inCap,Bool.and_eq_true,decide_eq_true_eq] at h
    have ih:=net_le0 B l fl h.2 (fun i b y hb hy=>hz (i + 1) b y (by simpa using hb) (by simpa using hy))
    have h0:=hz 0 a x rfl rfl
    simp only [netB]
    cases hB1:B a.f.toNat <;> cases hB2:B a.t.toNat <;> simp <;> first | omega | (have:=h0 hB1 hB2; omega)
theorem rest_le0 (hok:∀ a ∈ l,okArc n a = true) (hs:s < n) (ht:t < n) {fl D:List Int} (hf:Flw n l s t fl) (hD:IsDist n t (pE l fl) D) (hn:D.getD s 0 < 0):fval s l fl ≤ 0:=by
  obtain ⟨B,hB⟩:=exists_reach n (pE l fl) s
  have hE:∀ x,pE l fl x → x.f < n ∧ x.t < n:=fun x hx=>pl_lt hok x hx.1
  have b1:B s = true:=(hB s hs).2 .refl
  have b2:B t = false:=by
    cases hb:B t with
    | false=>rfl
    | true =>
      have:=((hB t ht).1 hb).far hD hn
      rw [hD.at0] at this; omega
  rw [← hf.net hok hs b1 b2]
  refine net_le0 B l fl hf.cap (fun i a x ha hx h1 h2=>?_)
  have hin:=inCap_get l fl hf.cap i a x ha hx
  apply Classical.byContradiction
  intro hne
  have:=hB.closed hE ⟨i,a.f.toNat,a.t.toNat⟩ ⟨plinks_iff.2 ⟨i,a,ha,rfl⟩,by unfold rmP; dsimp only; rw [List.getD_eq_getElem?_getD,hx]; simp only [Option.getD_some]; omega⟩ h1
  dsimp only at this
  rw [h2] at this; simp at this
end
/-! ### a greater capacity -/
/-! ### arcs turned round,arcs in the opposite order -/
def turnA (a:Arc):Arc:=⟨a.t,a.f,a.c⟩
theorem fval_turn (v:Int):∀ (l:List Arc) (fl:List Int),fval v (l.map turnA) fl = - fval v l fl
  | [],_=>by simp [fval]
  | _ :: _,[]=>by simp [fval]
  | a :: l,x :: fl=>by
    simp only [List.map_cons,fval,fval_turn v l fl,turnA]
    split <;> split <;> omega
theorem inCap_turn:∀ (l:List Arc) (fl:List Int),inCap (l.map turnA) fl = inCap l fl
  | [],_=>by simp [inCap]
  | _ :: _,[]=>by simp [inCap]
  | a :: l,x :: fl=>by simp only [List.map_cons,inCap,inCap_turn l fl,turnA]
theorem netB_all:∀ (l:List Arc) (fl:List Int),netB (fun _=>true) l fl = 0
  | [],_=>by simp [netB]
  | _ :: _,[]=>by simp [netB]
  | a :: l,x :: fl=>by simp only [netB,if_true]; rw [netB_all l fl]; omega
theorem sumTo_two {g:Nat → Int} {j k:Nat} (hjk:j ≠ k):∀ n,j < n → k < n → (∀ v,v < n → v ≠ j → v ≠ k → g v = 0) → sumTo g n = g j + g k
  | 0,h,_,_=>by omega
  | n + 1,h,h2,e=>by
    simp only [sumTo]
    by_cases e1:k = n
    · rw [sumTo_one (k:=j) n (by omega) (fun v hv hne=>e v (by omega) hne (by omega)),e1]
    · by_cases e2:j = n
      · rw [sumTo_one (k:=k) n (by omega) (fun v hv hne=>e v (by omega) (by omega) hne),e2]; omega
      · rw [sumTo_two hjk n (by omega) (by omega) (fun v hv g1 g2=>e v (by omega) g1 g2),e n (by omega) (by omega) (by omega)]; omega
theorem Flw.ends {n s t:Nat} {l:List Arc} {fl:List Int} (hok:∀ a ∈ l,okArc n a = true) (hs:s < n) (ht:t < n) (hst:s ≠ t) (hf:Flw n l s t fl):fval t l fl = - fval s l fl:=by
  have h:=netB_eq (n:=n) (fun _=>true) l fl hok
  rw [netB_all] at h
  rw [sumTo_two hst n hs ht (fun v hv g1 g2=>by simp only [if_true]; exact hf.bal v hv g1 g2)] at h
  simp only [if_true] at h;omega
theorem Flw.turn {n s t:Nat} {l:List Arc} {fl:List Int} (hf:Flw n l s t fl):Flw n (l.map turnA) t s fl:=
  ⟨by simp [hf.len],by rw [inCap_turn]; exact hf.cap,fun v hv g1 g2=>by rw [fval_turn,hf.bal v hv g2 g1]; rfl⟩
/-! ### differences of flows -/
def diffL (a b:List Int):List Int:=List.zipWith (· - ·) a b
theorem diffL_len {a b:List Int} (h:a.length = b.length):(diffL a b).length = a.length:=by simp [diffL,h]
theorem fval_diff (v:Int):∀ (l:List Arc) (a b:List Int),a.length = b.length → fval v l (diffL a b) = fval v l a - fval v l b
  | [],[],[],_=>by simp [fval]
  | [],_ :: _,_ :: _,_=>by simp [fval]
  | _ :: _,[],[],_=>by simp [fval,diffL]
  | c :: l,x :: a,y :: b,h=>by
    have:=fval_diff v l a b (by simpa using h)
    simp only [diffL,List.zipWith_cons_cons,fval] at this ⊢;rw [this]
    split <;> split <;> omega
theorem diffL_get {a b:List Int} {i:Nat} (h:i < a.length) (h2:i < b.length):(diffL a b).getD i 0 = a.getD i 0 - b.getD i 0:=by
  rw [List.getD_eq_getElem?_getD,List.getD_eq_getElem?_getD,List.getD_eq_getElem?_getD,diffL,List.getElem?_zipWith,List.getElem?_eq_getElem h,List.getElem?_eq_getElem h2]
  rfl
theorem diffL_set {a b:List Int} {i:Nat} (x:Int) (h:i < a.length) (h2:i < b.length):(diffL a b).set i ((diffL a b).getD i 0 + x) = diffL a (b.set i (b.getD i 0 - x)):=by
  rw [diffL_get h h2]
  apply List.ext_getElem
  · simp [diffL]
  · intro j h1 h3
    simp only [diffL,List.getElem_set,List.getElem_zipWith]
    split
    · rename_i e; subst e
      simp [List.getD_eq_getElem?_getD,h,h2]; omega
    · rfl
theorem diffL_self:∀ (a:List Int),diffL a a = List.replicate a.length 0
  | []=>rfl
  | x :: a=>by
    have:=diffL_self a
    simp only [diffL] at this ⊢;rw [List.zipWith_cons_cons,this,List.length_cons,List.replicate_succ,Int.sub_self]
end Go.Flow
/- The shipments of a flow can be made, and bring its value. No program in sight. No conditions. -/
namespace Go.Step
open Go.Flow (Flw fval inCap okArc okArc_iff)
section
variable {qs:List Int} {cs:List Ct} {bs:List Bk} {hs:List Hd} {d:Dm}
end
end Go.Step
/- The cut of a set of vertices. No program in sight. No conditions. -/
namespace Go.Step
def singI (d:Dm) (n:Int) (side:List Int):Iv:=(side.filter (fun v=>decide (v / wd d = n))).map (fun v=>(d.r + v % wd d,d.r + v % wd d + 1))
def sideI (d:Dm) (side:List Int) (n:Int):Iv:=insAll [] (singI d n side)
theorem singI_next (d:Dm) (n:Int) {side:List Int} {k:Nat} (h:k < side.length):singI d n (side.take (k + 1)) = singI d n (side.take k) ++ (if side[k] / wd d = n then [(d.r + side[k] % wd d,d.r + side[k] % wd d + 1)] else []):=by
  unfold singI;rw [List.take_succ_eq_append_getElem h,List.filter_append,List.map_append]
  congr 1
  by_cases hc:side[k] / wd d = n
  · simp [hc]
  · simp [hc]
theorem sideI_next (d:Dm) (n:Int) {side:List Int} {k:Nat} (h:k < side.length):sideI d (side.take (k + 1)) n = if side[k] / wd d = n then insI (sideI d (side.take k) n) (d.r + side[k] % wd d,d.r + side[k] % wd d + 1) else sideI d (side.take k) n:=by
  unfold sideI;rw [singI_next d n h];unfold insAll;rw [List.foldl_append]
  split <;> rfl
theorem singI_ok (d:Dm) (n:Int) (side:List Int):∀ x ∈ singI d n side,x.2 = x.1 + 1:=fun x hx=>by
  unfold singI at hx
  obtain ⟨v,_,rfl⟩:=List.mem_map.1 hx
  rfl
theorem mem_singI {d:Dm} {n t:Int} {side:List Int}:memI (singI d n side) t = true ↔ ∃ v ∈ side,v / wd d = n ∧ d.r + v % wd d = t:=by
  rw [memI_iff];unfold singI
  constructor
  · rintro ⟨x,hx,h1,h2⟩
    obtain ⟨v,hv,rfl⟩:=List.mem_map.1 hx
    obtain ⟨h3,h4⟩:=List.mem_filter.1 hv
    exact ⟨v,h3,of_decide_eq_true h4,by dsimp only at h1 h2; omega⟩
  · rintro ⟨v,hv,h1,h2⟩
    exact ⟨_,List.mem_map.2 ⟨v,List.mem_filter.2 ⟨hv,decide_eq_true h1⟩,rfl⟩,by dsimp only; omega,by dsimp only; omega⟩
theorem sideI_ok (d:Dm) (side:List Int) (n:Int):NormI (sideI d side n) ∧ (∀ t,memI (sideI d side n) t = true ↔ ∃ v ∈ side,v / wd d = n ∧ d.r + v % wd d = t) ∧ (sideI d side n).length ≤ side.length:=by
  obtain ⟨h1,h2,h3⟩:=insAll_ok (a:=[]) (b:=singI d n side) NormI.nil (fun x hx=>by have:=singI_ok d n side x hx; omega)
  refine ⟨h1,fun t=>?_,?_⟩
  · unfold sideI
    rw [h2,show memI [] t = false from rfl,Bool.false_or]
    exact mem_singI
  · have:(singI d n side).length ≤ side.length:=by
      unfold singI;rw [List.length_map];exact List.length_filter_le _ _
    unfold sideI
    simp at h3
    omega
theorem sideI_in {d:Dm} (hw:d.r ≤ d.e) (side:List Int) (n:Int):∀ x ∈ sideI d side n,d.r ≤ x.1 ∧ x.2 ≤ d.e + 1:=norm_in (sideI_ok d side n).1 (fun t ht=>by
  obtain ⟨v,_,_,h⟩:=((sideI_ok d side n).2.1 t).1 ht
  have a:=Int.emod_nonneg v (show wd d ≠ 0 by unfold wd; omega)
  have b:=Int.emod_lt_of_pos v (show 0 < wd d by unfold wd; omega)
  unfold wd at *
  omega)
def sidesC (d:Dm) (nq:Nat) (side:List Int):Cu:=(List.range nq).map (fun n:Nat=>sideI d side n)
section
variable {qs:List Int} {cs:List Ct} {bs:List Bk} {hs:List Hd} {d:Dm}
theorem capB_congr (h:VOk qs cs bs hs d) {B C:Int → Int → Bool} (hB:∀ n t:Int,0 ≤ n → n < (qs.length:Int) → d.r ≤ t → t ≤ d.e → B n t = C n t):capB qs cs bs hs d B = capB qs cs bs hs d C:=by
  unfold capB
  congr 1
  · refine sumT_congr (fun k hk=>?_)
    rw [← lsum_rngI,← lsum_rngI]
    refine lsum_congr (fun t ht=>?_)
    rw [mem_rngI] at ht;unfold waitB
    rw [hB _ t (by omega) (by omega) (by omega) (by omega),hB _ (t + 1) (by omega) (by omega) (by omega) (by omega)]
  · refine sumT_congr (fun k hk=>?_)
    rw [← lsum_rngI,← lsum_rngI]
    refine lsum_congr (fun t ht=>?_)
    rw [mem_rngI] at ht;unfold conB;rw [Int.zero_add,Int.toNat_natCast,List.getElem?_eq_getElem hk]
    have k1:=h.ct _ (List.getElem_mem hk)
    generalize cs[k] = x at k1
    dsimp only
    by_cases hx:t + 1 + x.g ≤ d.e
    · rw [hB _ t k1.1.1 k1.1.2 (by omega) (by omega),hB _ (t + 1 + x.g) k1.2.1.1 k1.2.1.2 (by omega) hx]
    · rw [if_neg (fun h2=>hx h2.2.2.1),if_neg (fun h2=>hx h2.2.2.1)]
end
end Go.Step
/- The shipments of a flow, one after the other; what Shipments answers. No program in sight. No conditions. -/
namespace Go.Step
open Go.Flow
variable {qs:List Int} {cs:List Ct} {bs:List Bk} {hs:List Hd} {d:Dm}
theorem shipsF_append:∀ {A B:List EA} {f g:List Int},A.length = f.length → shipsF (A ++ B) (f ++ g) = shipsF A f ++ shipsF B g
  | [],_,[],_,_=>rfl
  | [],_,_ :: _,_,h=>by simp at h
  | _ :: _,_,[],_,h=>by simp at h
  | x :: A,B,y :: f,g,h=>by
    simp only [List.cons_append,shipsF]
    rw [shipsF_append (by simpa using h),List.append_assoc]
theorem shipsF_next {L:List EA} {fl:List Int} (h:fl.length = L.length) {i:Nat} {x:EA} {y:Int} (hx:L[i]? = some x) (hy:fl[i]? = some y) :
    shipsF (L.take (i + 1)) (fl.take (i + 1)) = shipsF (L.take i) (fl.take i) ++ (if 0 ≤ x.c ∧ 0 < y then [⟨x.c,x.t,y⟩] else []):=by
  rw [List.take_add_one,List.take_add_one,hx,hy]
  rw [shipsF_append (by rw [List.length_take,List.length_take,h])]
  simp [shipsF]
theorem shipsF_len:∀ (L:List EA) (fl:List Int),(shipsF L fl).length ≤ L.length
  | [],_=>by simp [shipsF]
  | _ :: _,[]=>by simp [shipsF]
  | x :: L,y :: fl=>by
    have:=shipsF_len L fl
    simp only [shipsF,List.length_append,List.length_cons]
    split <;> simp <;> omega
def shipsE (qs:List Int) (cs:List Ct) (bs:List Bk) (hs:List Hd) (d:Dm) (fl:List Int):Int:=
  if validT qs cs bs hs d = true then (valueSpec (vsN qs d) (arcsG qs cs bs hs d) fl (vtx d d.s d.r) (vtx d d.d d.e)).2 else 1
def shipsR (qs:List Int) (cs:List Ct) (bs:List Bk) (hs:List Hd) (d:Dm) (fl:List Int):List Sh:=
  if shipsE qs cs bs hs d fl = 0 then shipsF (arcsE qs cs bs hs d) fl else []
theorem shipsE_len {fl:List Int} (hv:validT qs cs bs hs d = true) (h:shipsE qs cs bs hs d fl = 0):fl.length = (arcsE qs cs bs hs d).length:=by
  unfold shipsE at h;rw [if_pos hv] at h;unfold valueSpec at h
  split at h
  · rename_i hc; exact absurd h hc
  split at h
  · simp at h
  split at h
  · simp at h
  · rename_i hl
    have:(arcsG qs cs bs hs d).length = (arcsE qs cs bs hs d).length:=by unfold arcsG; rw [List.length_map]
    have hl':fl.length = (arcsG qs cs bs hs d).length:=by
      apply Classical.byContradiction
      intro hne
      exact hl hne
    omega
def sidesE (qs:List Int) (cs:List Ct) (bs:List Bk) (hs:List Hd) (d:Dm) (side:List Int):Int:=
  if validT qs cs bs hs d = true then (capacitySpec (vsN qs d) (arcsG qs cs bs hs d) side).2 else 1
theorem sideChk_in {n:Int}:∀ {l:List Int} {p:Option Int},sideChk n p l = 0 → ∀ v ∈ l,0 ≤ v ∧ v < n
  | [],_,_=>by simp
  | v :: l,p,h=>by
    unfold sideChk at h
    split at h
    · simp at h
    rename_i hv
    have h0:sideChk n (some v) l = 0:=by
      split at h
      · split at h
        · simp at h
        · exact h
      · simpa using h
    intro u hu
    rcases List.mem_cons.1 hu with rfl | hu
    · omega
    · exact sideChk_in h0 u hu
theorem sidesE_in {side:List Int} (hv:validT qs cs bs hs d = true) (h:sidesE qs cs bs hs d side = 0):∀ v ∈ side,0 ≤ v ∧ v < vsN qs d:=by
  unfold sidesE at h;rw [if_pos hv] at h;unfold capacitySpec at h
  split at h
  · rename_i hc; exact absurd h hc
  split at h
  · rename_i hc; exact absurd h hc
  · rename_i hc
    exact sideChk_in (p:=none) (by omega)
theorem sideI_one {a:Iv} (ha:NormI a) (t:Int):combI (fun x y=>x || y) a [(t,t + 1)] = insI a (t,t + 1):=by
  have h:=unionI_eq (a:=a) (b:=[(t,t + 1)]) ha (NormI.nil.cons (by dsimp only; omega) (by simp))
  exact h.symm
theorem sidesC_nil (d:Dm) (nq:Nat):sidesC d nq [] = List.replicate nq []:=by
  unfold sidesC
  apply List.ext_getElem?
  intro i
  rw [List.getElem?_map,List.getElem?_replicate]
  by_cases h:i < nq
  · rw [List.getElem?_range h,if_pos h]; rfl
  · rw [List.getElem?_eq_none (by simp; omega),if_neg h]; rfl
theorem sidesC_next (d:Dm) (nq:Nat) {side:List Int} {k:Nat} (h:k < side.length) {n:Nat} (hn:side[k] / wd d = n) :
    sidesC d nq (side.take (k + 1)) = (sidesC d nq (side.take k)).set n (insI (sideI d (side.take k) n) (d.r + side[k] % wd d,d.r + side[k] % wd d + 1)):=by
  unfold sidesC
  apply List.ext_getElem?
  intro i
  rw [List.getElem?_set,List.getElem?_map,List.getElem?_map,List.length_map,List.length_range]
  by_cases hi:i < nq
  · rw [List.getElem?_range hi]
    simp only [Option.map_some];rw [sideI_next d _ h]
    by_cases he:n = i
    · subst he
      rw [if_pos hn,if_pos rfl,if_pos hi]
    · rw [if_neg (by omega),if_neg he]
  · rw [List.getElem?_eq_none (by simp; omega)]
    by_cases he:n = i
    · rw [if_pos he,if_neg (by omega)]; rfl
    · rw [if_neg he]; rfl
theorem sidesC_len (d:Dm) (nq:Nat) (side:List Int):(sidesC d nq side).length = nq:=by simp [sidesC]
end Go.Step
/- Shipments. -/
namespace Go.Proofs.YtphehihohghfoaaGreat
open Go.Eng Go.Step
set_option maxRecDepth 100000
set_option maxHeartbeats 4000000

set_option maxHeartbeats 32000000 in
theorem Shipments_spec {ρ τ σ υ:PH} {pq pc pb ph:Option Addr} {kq kc kb kh:Nat} {qs:List Int} {cs:List Ct} {bs:List Bk} {hs:List Hd} (hT:TbAt ρ τ σ υ pq pc pb ph kq kc kb kh qs cs bs hs) (d:Dm) (ω:PH) (u0:Value) (fl:List Int) (hu:IntsAt ω u0 fl) :
  Makes Tryz.prog (fv 34) [.agg #[.slice pq qs.length kq,.slice pc cs.length kc,.slice pb bs.length kb,.slice ph hs.length kh],.agg #[int d.s,int d.d,int d.v,int d.r,int d.e],u0] [ρ,τ,σ,υ,ω] (fun r χ=>∃ u,r = .tuple #[u,int (shipsE qs cs bs hs d fl)] ∧ OwnS 55 3 u (shipsR qs cs bs hs d fl).length ((shipsR qs cs bs hs d fl).flatMap encX) χ):=by
 obtain ⟨pf,kf,rfl,hrf⟩:=hu.val Eng.encI_len
 refine spec_in (cap:=[]) Tryz.func34 rfl rfl Tryz.ntmps34 rfl envZ (fun N β=>?_)
 refine Aa ?_;refine BI (BK rfl) rfl rfl rfl ?_;rintro _ _ ⟨b1,rfl,rfl⟩;refine AS (ρ:=sng b1 _) takeZ ?_
 have ct:=rdB b1 29 [.slice pq qs.length kq,.slice pc cs.length kc,.slice pb bs.length kb,.slice ph hs.length kh]
 have ct0:=rdC ct 0
 have ct1:=rdC ct 1
 have ct2:=rdC ct 2
 have ct3:=rdC ct 3
 have ctp:RdP (sng b1 (.cells #[.slice pq qs.length kq,.slice pc cs.length kc,.slice pb bs.length kb,.slice ph hs.length kh] 29 (0,0))) b1 0 [.slice pq qs.length kq,.slice pc cs.length kc]:=rdP_sng (xs:=[.slice pq qs.length kq,.slice pc cs.length kc,.slice pb bs.length kb,.slice ph hs.length kh]) rfl
 refine BI (BK rfl) rfl rfl rfl ?_;rintro _ _ ⟨b2,rfl,rfl⟩;refine AS (ρ:=sng b2 _) takeZ ?_
 have cd:=rdB b2 31 [int d.s,int d.d,int d.v,int d.r,int d.e]
 have cd0:=rdC cd 0
 have cd1:=rdC cd 1
 have cd2:=rdC cd 2
 have cd3:=rdC cd 3
 have cd4:=rdC cd 4
 refine BI (CX rfl rfl) rfl rfl rfl ?_;rintro _ _ ⟨bf,rfl,rfl⟩;refine AS (ρ:=sng bf _) takeZ ?_
 have cf:rdc (sng bf (.cells #[.slice pf fl.length kf] 22 (0,0))) bf 0 = some (.slice pf fl.length kf):=by rw [rdc_sng]; rfl
 refine BY ?_;refine Aan ?_;refine Ab5 ?_;refine BF (build_spec hT d) rfl rfl Takes.nil rdZ rfl rfl ?_;rintro _ H' (⟨hv,rfl,rfl⟩ | ⟨hv,bw,bm,pl0,χ,M,rfl,rfl,hO,hM⟩)
 ·have hE:shipsE qs cs bs hs d fl = 1:=by unfold shipsE; rw [if_neg (by simp [hv])]
  have hR:shipsR qs cs bs hs d fl = []:=by unfold shipsR; rw [hE,if_neg (by omega)]
  rw [hE,hR];refine Ac ?_;refine Ad4 ?_;refine Acf ?_;exact AI (res2 rfl rfl rfl) rsubZ selZ ⟨emp,⟨_,rfl,OwnS.nil _ _⟩,rfl⟩
 have hEv:shipsE qs cs bs hs d fl = (Go.Flow.valueSpec (vsN qs d) (arcsG qs cs bs hs d) fl (vtx d d.s d.r) (vtx d d.d d.e)).2:=by unfold shipsE; rw [if_pos hv]
 have h:=vok hv
 have h0:=vokB hv
 have hdm:=h.dm
 unfold okDm at hdm
 have hnq:=h.nq
 obtain ⟨pl,kp,rfl⟩:=hO.form
 have hpl:SlE encS 2 χ (.slice pl (placesA d qs.length).length kp) (placesA d qs.length):=hO.at
 refine AS (ρ:=sng bw _) takeZ ?_;refine AS (ρ:=sng bm _) takeZ ?_;refine AS (ρ:=χ) takeZ ?_
 have w0:rdc (sng bw (.cells #[.slice pq qs.length kq,.slice pc cs.length kc,.slice pb bs.length kb,.slice ph hs.length kh,int d.s,int d.d,int d.v,int d.r,int d.e,.slice pl (placesA d qs.length).length kp,.map (some bm)] 134 (0,0))) bw 0 = some (.slice pq qs.length kq):=by rw [rdc_sng]; rfl
 have w1:rdc (sng bw (.cells #[.slice pq qs.length kq,.slice pc cs.length kc,.slice pb bs.length kb,.slice ph hs.length kh,int d.s,int d.d,int d.v,int d.r,int d.e,.slice pl (placesA d qs.length).length kp,.map (some bm)] 134 (0,0))) bw 1 = some (.slice pc cs.length kc):=by rw [rdc_sng]; rfl
 have w2:rdc (sng bw (.cells #[.slice pq qs.length kq,.slice pc cs.length kc,.slice pb bs.length kb,.slice ph hs.length kh,int d.s,int d.d,int d.v,int d.r,int d.e,.slice pl (placesA d qs.length).length kp,.map (some bm)] 134 (0,0))) bw 2 = some (.slice pb bs.length kb):=by rw [rdc_sng]; rfl
 have w3:rdc (sng bw (.cells #[.slice pq qs.length kq,.slice pc cs.length kc,.slice pb bs.length kb,.slice ph hs.length kh,int d.s,int d.d,int d.v,int d.r,int d.e,.slice pl (placesA d qs.length).length kp,.map (some bm)] 134 (0,0))) bw 3 = some (.slice ph hs.length kh):=by rw [rdc_sng]; rfl
 have w4:rdc (sng bw (.cells #[.slice pq qs.length kq,.slice pc cs.length kc,.slice pb bs.length kb,.slice ph hs.length kh,int d.s,int d.d,int d.v,int d.r,int d.e,.slice pl (placesA d qs.length).length kp,.map (some bm)] 134 (0,0))) bw 4 = some (int d.s):=by rw [rdc_sng]; rfl
 have w5:rdc (sng bw (.cells #[.slice pq qs.length kq,.slice pc cs.length kc,.slice pb bs.length kb,.slice ph hs.length kh,int d.s,int d.d,int d.v,int d.r,int d.e,.slice pl (placesA d qs.length).length kp,.map (some bm)] 134 (0,0))) bw 5 = some (int d.d):=by rw [rdc_sng]; rfl
 have w6:rdc (sng bw (.cells #[.slice pq qs.length kq,.slice pc cs.length kc,.slice pb bs.length kb,.slice ph hs.length kh,int d.s,int d.d,int d.v,int d.r,int d.e,.slice pl (placesA d qs.length).length kp,.map (some bm)] 134 (0,0))) bw 6 = some (int d.v):=by rw [rdc_sng]; rfl
 have w7:rdc (sng bw (.cells #[.slice pq qs.length kq,.slice pc cs.length kc,.slice pb bs.length kb,.slice ph hs.length kh,int d.s,int d.d,int d.v,int d.r,int d.e,.slice pl (placesA d qs.length).length kp,.map (some bm)] 134 (0,0))) bw 7 = some (int d.r):=by rw [rdc_sng]; rfl
 have w8:rdc (sng bw (.cells #[.slice pq qs.length kq,.slice pc cs.length kc,.slice pb bs.length kb,.slice ph hs.length kh,int d.s,int d.d,int d.v,int d.r,int d.e,.slice pl (placesA d qs.length).length kp,.map (some bm)] 134 (0,0))) bw 8 = some (int d.e):=by rw [rdc_sng]; rfl
 have w9:rdc (sng bw (.cells #[.slice pq qs.length kq,.slice pc cs.length kc,.slice pb bs.length kb,.slice ph hs.length kh,int d.s,int d.d,int d.v,int d.r,int d.e,.slice pl (placesA d qs.length).length kp,.map (some bm)] 134 (0,0))) bw 9 = some (.slice pl (placesA d qs.length).length kp):=by rw [rdc_sng]; rfl
 have w10:rdc (sng bw (.cells #[.slice pq qs.length kq,.slice pc cs.length kc,.slice pb bs.length kb,.slice ph hs.length kh,int d.s,int d.d,int d.v,int d.r,int d.e,.slice pl (placesA d qs.length).length kp,.map (some bm)] 134 (0,0))) bw 10 = some (.map (some bm)):=by rw [rdc_sng]; rfl
 have hg:=graph_spec hT bw bm kp pl χ M d h h0 hpl hM
 have hit:=fun c1=>arcs_iter hT bw bm c1 kp pl χ M d h h0 hpl hM
 have hEl:=ea_len qs cs bs hs d h
 have hAl:(arcsG qs cs bs hs d).length = (arcsE qs cs bs hs d).length:=by unfold arcsG; rw [List.length_map]
 have hone:∀ z n (xs:List Value) (χ:PH),OwnS 55 3 z n xs χ → z.oneCell' = true:=fun z n xs χ h=>by obtain ⟨_,_,rfl⟩:=h.form; rfl
 refine Ac ?_;refine Acc ?_;refine Aad ?_;refine BZ hg rfl rfl rdZ rfl rfl ?_;rintro _ σg ⟨ug,rfl,hOg⟩
 have hAt:ArcsAt σg ug (arcsG qs cs bs hs d):=hOg.at
 obtain ⟨pg,kg,rfl⟩:=hOg.form
 refine AS (ρ:=σg) takeZ ?_;refine AW ?_; rintro _ _ ⟨b,rfl,rfl⟩;refine AV ?_; rintro _ _ ⟨rfl,rfl⟩;refine Aak ?_;refine Ace ?_;refine AF ?_;refine Ad6 ?_
 revert b; intro bg
 refine AS (ρ:=sng bg _) takeZ ?_
 have gg0:rdc (sng bg (.cells #[int (vsN qs d),.slice pg (arcsG qs cs bs hs d).length kg,int (vtx d d.s d.r),int (vtx d d.d d.e)] 69 (0,0))) bg 0 = some (int (vsN qs d)):=by rw [rdc_sng]; rfl
 have gg1:rdc (sng bg (.cells #[int (vsN qs d),.slice pg (arcsG qs cs bs hs d).length kg,int (vtx d d.s d.r),int (vtx d d.d d.e)] 69 (0,0))) bg 1 = some (.slice pg (arcsG qs cs bs hs d).length kg):=by rw [rdc_sng]; rfl
 have gg2:rdc (sng bg (.cells #[int (vsN qs d),.slice pg (arcsG qs cs bs hs d).length kg,int (vtx d d.s d.r),int (vtx d d.d d.e)] 69 (0,0))) bg 2 = some (int (vtx d d.s d.r)):=by rw [rdc_sng]; rfl
 have gg3:rdc (sng bg (.cells #[int (vsN qs d),.slice pg (arcsG qs cs bs hs d).length kg,int (vtx d d.s d.r),int (vtx d d.d d.e)] 69 (0,0))) bg 3 = some (int (vtx d d.d d.e)):=by rw [rdc_sng]; rfl
 have hval:=flowValue_spec σg ω _ _ (vsN qs d) (vtx d d.s d.r) (vtx d d.d d.e) (arcsG qs cs bs hs d) fl hAt hu (by omega)
 skip
 refine A3 hval rfl rfl rdZ rfl rfl ?_;rintro _ rfl;rw [← hEv]
 generalize (Go.Flow.valueSpec (vsN qs d) (arcsG qs cs bs hs d) fl (vtx d d.s d.r) (vtx d d.d d.e)).1 = vv
 by_cases hz:shipsE qs cs bs hs d fl = 0
 rotate_left
 ·have hR:shipsR qs cs bs hs d fl = []:=by unfold shipsR; rw [if_neg hz]
  rw [hR];refine Ac0 ?_;refine Acm ?_;refine Adu ?_;exact AI (res2 rfl rfl rfl) rsubZ selZ ⟨emp,⟨_,rfl,OwnS.nil _ _⟩,rfl⟩
 have hR:shipsR qs cs bs hs d fl = shipsF (arcsE qs cs bs hs d) fl:=by unfold shipsR; rw [if_pos hz]
 have hfl:=shipsE_len hv hz
 rw [hz,hR];refine Ac0 ?_;refine Abc ?_;refine Aa ?_;refine BQ ?_; rintro _ _ ⟨b,rfl,rfl⟩;refine AE ?_;refine Aa ?_;refine BQ ?_; rintro _ _ ⟨b,rfl,rfl⟩;refine BB ?_; rintro _ _ ⟨rfl,rfl⟩;refine Aak ?_;refine Aad ?_
 revert b; intro b14
 revert b; intro b13
 refine BF (arcs_spec bw) rfl rfl Takes.nil (fun τ hτ=>by simp at hτ) rfl rfl ?_
 rintro _ _ ⟨c1,rfl,rfl⟩;refine AS (ρ:=sng c1 _) takeZ ?_;refine AE ?_;refine AP ?_
 refine CW (gf:=102) (cap:=[.pointer (some ⟨c1,0,none⟩)]) (ps:=[44]) (X:=Nat × Value × PH) rfl Tryz.func102 rfl rfl
  (hit c1) ?_
  (fun i x=>x.1 = i ∧ OwnS 55 3 x.2.1 (shipsF ((arcsE qs cs bs hs d).take i) (fl.take i)).length ((shipsF ((arcsE qs cs bs hs d).take i) (fl.take i)).flatMap encX) x.2.2)
  (fun x=>[sng b14 (.cells #[int x.1] 3 (0,0)),sng b13 (.cells #[x.2.1] 37 (0,0)),x.2.2]) (fun _ _=>False) (0,.slice none 0 0,emp) rfl takesZ ⟨rfl,OwnS.nil _ _⟩ ?_ ?_ ?_
 ·intro σ' hσ
  simp only [List.mem_cons,List.not_mem_nil,or_false] at hσ ⊢
  rcases hσ with h | h | h | h | h | h | h | h <;> simp [h]
 ·rintro lo r i ⟨i',u,σ1⟩ vs hvs ⟨hi',hO1⟩ hps has hbd hst hpe hfr
  obtain ⟨st,pe,fnn,tm,prm,asg,bdy,df⟩:=r
  simp only at hps has hbd hst hpe hfr;subst hps has hbd hst hpe;rw [List.getElem?_map] at hvs
  obtain ⟨x,hx,rfl⟩:=Option.map_eq_some_iff.1 hvs
  dsimp only at hi' hO1
  subst hi'
  have hil:=(List.getElem?_eq_some_iff.1 hx).1
  have hy:=List.getElem?_eq_getElem (show i' < fl.length by omega)
  have hnx:=shipsF_next hfl hx hy
  obtain ⟨bo,oo,epf,gf⟩:=hrf.int hy
  have hsl:=shipsF_len ((arcsE qs cs bs hs d).take i') (fl.take i')
  rw [List.length_take] at hsl;simp only [hnx]
  generalize fl[i'] = y at hy gf hnx
  generalize shipsF ((arcsE qs cs bs hs d).take i') (fl.take i') = O at hO1 hsl
  have hu1:=hone _ _ _ _ hO1
  subst epf
  refine yield_spec hfr rfl (by intro p hp; simp at hp; omega) putiZ (fun N' β'=>?_)
  dsimp only
  refine AA ?_;refine AW ?_; rintro _ _ ⟨b,rfl,rfl⟩;refine AV ?_; rintro _ _ ⟨rfl,rfl⟩;refine Aef ?_;refine CV takeZ rfl ?_
  revert b; intro bx
  refine AS (ρ:=sng bx _) takeZ ?_
  have px0:rdc (sng bx (.cells #[int x.a.f,int x.a.t,int x.a.c,int x.c,int x.t] 150 (0,0))) bx 0 = some (int x.a.f):=by rw [rdc_sng]; rfl
  have px1:rdc (sng bx (.cells #[int x.a.f,int x.a.t,int x.a.c,int x.c,int x.t] 150 (0,0))) bx 1 = some (int x.a.t):=by rw [rdc_sng]; rfl
  have px2:rdc (sng bx (.cells #[int x.a.f,int x.a.t,int x.a.c,int x.c,int x.t] 150 (0,0))) bx 2 = some (int x.a.c):=by rw [rdc_sng]; rfl
  have px3:rdc (sng bx (.cells #[int x.a.f,int x.a.t,int x.a.c,int x.c,int x.t] 150 (0,0))) bx 3 = some (int x.c):=by rw [rdc_sng]; rfl
  have px4:rdc (sng bx (.cells #[int x.a.f,int x.a.t,int x.a.c,int x.c,int x.t] 150 (0,0))) bx 4 = some (int x.t):=by rw [rdc_sng]; rfl
  by_cases hc:0 ≤ x.c
  ·by_cases hy0:0 < y
   ·rw [if_pos ⟨hc,hy0⟩]
    refine AP ?_;refine AC ?_;refine Adg ?_;refine AB ?_;refine AF ?_;refine AF ?_;refine Ab1 ?_;refine CI ?_;refine AL ?_;refine Aag ?_
    refine A5 (.q 0 (.q 1 (.q 2 (.q 3 (.q 4 (.q 5 (.q 6 (.q 7 (.q 8 (.q 9 (.l 10 .e (.l 11 .b (.l 12 .b .nil))))))))))))) [] rfl (by kernel_rfl) Sel.nil ?_
    refine AQ ?_;refine Ac8 ?_;refine AQ ?_;refine AQ ?_;refine C1 ?_;refine AQ ?_;refine CP ?_;refine B0 ?_; rintro _ _ ⟨b,rfl,rfl⟩
    refine CO (a_b rfl (B6 (by_:=24) (s:=3) (news:=[int x.c,int x.t,int y]) rfl rfl rfl rfl rfl rfl rfl hO1 takeZ (cells_own memZ) rfl (by (repeat (first | exact (fun v hv=>absurd hv List.not_mem_nil) | (refine List.forall_mem_cons.2 ⟨?_,?_⟩; (focus (first | exact rfl | assumption))))); first | done | fail) (by omega) (by simp only [maxLen]; omega) (by omega)) rfl rfl rfl (fun _ _ _ w hw=>hw.sel Sel.nil) ?_)
    rintro u1 _ ⟨σ2,hO2,rfl⟩
    have hu2:=hone _ _ _ _ hO2
    refine C5 ?_; rintro _ _ ⟨rfl,rfl⟩;refine A6 ?_;refine AA ?_;refine AF ?_;refine BA ?_;refine BB ?_; rintro _ _ ⟨rfl,rfl⟩;refine Aea ?_;refine BP takeZ rsubZ selZ ⟨(i' + 1,u1,σ2),.inl ⟨rfl,⟨rfl,?_⟩,rfl⟩⟩
    dsimp only
    rw [List.length_append,List.flatMap_append];exact hO2
   ·rw [if_neg (fun h=>hy0 h.2),List.append_nil]
    refine AP ?_;refine AC ?_;refine Adg ?_;refine AB ?_;refine AF ?_;refine AF ?_;refine Ab1 ?_;refine BO ?_;refine AL ?_;refine Aal ?_;refine AA ?_;refine AF ?_;refine BA ?_;refine BB ?_; rintro _ _ ⟨rfl,rfl⟩;refine Aea ?_;exact BP takeZ rsubZ selZ ⟨(i' + 1,u,σ1),.inl ⟨rfl,⟨rfl,hO1⟩,rfl⟩⟩
  ·rw [if_neg (fun h=>hc h.1),List.append_nil]
   refine AP ?_;refine AC ?_;refine Aao ?_;refine BJ ?_;refine Ab0 ?_;refine Abg ?_;refine AA ?_;refine AF ?_;refine BA ?_;refine BB ?_; rintro _ _ ⟨rfl,rfl⟩;refine Aea ?_;exact BP takeZ rsubZ selZ ⟨(i' + 1,u,σ1),.inl ⟨rfl,⟨rfl,hO1⟩,rfl⟩⟩
 ·rintro b9 ⟨i',u,σ1⟩ ⟨_,hO1⟩
  rw [List.length_map,List.take_length,← hfl,List.take_length] at hO1
  dsimp only at hO1
  have hu1:=hone _ _ _ _ hO1
  refine A4 ?_;refine Abb ?_;refine Aan ?_;refine D5 (v:=.tuple #[u,int 0]) (Marks.cons .here .nil) ?_ rsubZ ?_ ⟨σ1,⟨u,rfl,hO1⟩,rfl⟩
  ·exact res2 rfl rfl rfl
  ·exact selZ
 ·rintro _ _ _ h; exact h.elim
end Go.Proofs.YtphehihohghfoaaGreat
/- Slices of sets. -/
namespace Go.Proofs.YtphehihohghfoaaGreat
open Go.Eng Go.Step
set_option maxRecDepth 100000
set_option maxHeartbeats 4000000

abbrev Sq:=(Option Addr × Nat) × List (Int × Int)
def encQ (x:Sq):List Value:=[.slice x.1.1 x.2.length x.1.2]
theorem encQ_len (x:Sq):(encQ x).length = 1:=rfl
abbrev cuL (L:List Sq):Cu:=L.map (fun x=>x.2)
def CutL (γ κ:PH) (v:Value) (L:List Sq):Prop:=SlE encQ 1 γ v L ∧ ∀ x ∈ L,SpAt κ (.slice x.1.1 x.2.length x.1.2) x.2 ∧ x.2.length ≤ 9223372036854775807
theorem CutL.row {γ κ:PH} {p:Option Addr} {n kk:Nat} {L:List Sq} (h:CutL γ κ (.slice p n kk) L):CutRow γ κ p (cuL L):=fun i l hl=>by
 rw [List.getElem?_map] at hl
 obtain ⟨x,hx,rfl⟩:=Option.map_eq_some_iff.1 hl
 obtain ⟨q,k,e,hr⟩:=h.1.val encQ_len
 simp only [Value.slice.injEq] at e
 obtain ⟨b,o,e2,hrd⟩:=hr i x hx
 obtain ⟨h1,h2⟩:=h.2 x (List.mem_of_getElem? hx)
 refine ⟨b,o,x.1.1,x.1.2,by rw [e.1,e2],?_,h1,h2⟩
 have:=hrd 0 _ rfl
 rwa [Nat.mul_one,Nat.add_zero] at this
end Go.Proofs.YtphehihohghfoaaGreat
/- The ends of two sets, in their order. -/
namespace Go.Proofs.YtphehihohghfoaaGreat
open Go.Eng Go.Step
set_option maxRecDepth 100000
set_option maxHeartbeats 4000000

theorem sideNext_spec (ρ:PH) (v:Value) (l:Iv) (b p:Nat) (hv:SpAt ρ v l) (hl:l.length ≤ 4611686018427387903) (hp:p ≤ 2 * l.length) :
  Ans Tryz.prog (fv 150) [.pointer (some ⟨b,0,none⟩)] [sng b (.cells #[v,int ((p / 2:Nat):Int),.bool (oddB p)] 232 (0,0)),ρ] (fun r=>r = .tuple #[int ((tog l).getD p 0),.bool (decide (p < 2 * l.length))]):=by
 obtain ⟨q,c,rfl,hr⟩:=hv.val encS_len
 have hod:=oddB_cases p
 obtain ⟨i,hi⟩:∃ i,p / 2 = i:=⟨_,rfl⟩
 rw [hi] at hod ⊢
 have ct:=rdB b 232 [.slice q l.length c,int ((i:Nat):Int),.bool (oddB p)]
 have ct0:=rdC ct 0
 have ct1:=rdC ct 1
 have ct2:=rdC ct 2
 refine spec_in (cap:=[]) Tryz.func150 rfl rfl Tryz.ntmps150 rfl envZ (fun N β=>?_)
 by_cases h0:p = 2 * l.length
 ·have hR:(tog l).getD p 0 = 0:=by rw [List.getD_eq_getElem?_getD,List.getElem?_eq_none (by rw [tog_len]; omega)]; rfl
  rw [hR,decide_eq_false (by omega)]
  have hil:i = l.length:=by omega
  refine Acf ?_;refine Aat ?_;refine AC ?_
  refine A5 (.q 0 (.q 1 (.q 2 (.q 3 (.q 4 (.q 5 (.q 6 (.q 7 (.q 8 (.q 9 (.q 10 .nil))))))))))) [] rfl (by kernel_rfl) selZ ?_
  refine Ae ?_;refine EJ ?_;refine EK ?_;refine BV ?_;refine Abs ?_;refine Acf ?_;exact AI (res2 rfl rfl rfl) rsubZ selZ ⟨rfl,rfl⟩
 have hil:i < l.length:=by omega
 obtain ⟨g1,g2⟩:=tog_get l i _ (List.getElem?_eq_getElem hil)
 rw [decide_eq_true (show p < 2 * l.length by omega)]
 obtain ⟨b4,o4,rfl,hrd,x0,x1⟩:=spRow hr (List.getElem?_eq_getElem hil)
 rcases hod with ⟨ho,hp2⟩ | ⟨ho,hp2⟩
 ·have hR:(tog l).getD p 0 = l[i].2:=by rw [List.getD_eq_getElem?_getD,hp2,g2]; rfl
  rw [hR];rw [ho] at ct ct0 ct1 ct2 ⊢
  generalize l[i] = x at hrd x0 x1
  refine Acf ?_;refine Aat ?_;refine AC ?_
  refine A5 (.q 0 (.q 1 (.q 2 (.q 3 (.q 4 (.q 5 (.q 6 (.q 7 (.q 8 (.q 9 (.q 10 .nil))))))))))) [] rfl (by kernel_rfl) selZ ?_
  refine Ae ?_;refine EJ ?_;refine C7 ?_;refine Adw ?_;refine AN rfl ?_;refine Aad ?_;refine Adr ?_;refine Aab ?_;refine AM rfl ?_;refine AC ?_
  refine A5 (.q 0 (.q 1 (.q 2 (.q 3 (.q 4 (.q 5 (.q 6 (.q 7 (.q 8 (.q 9 (.q 10 (.q 11 (.q 12 .nil))))))))))))) [] rfl (by kernel_rfl) selZ ?_
  refine Ae ?_;refine BG ?_;refine Aca ?_;refine BV ?_;refine Adw ?_
  skip
  exact AI (res2 rfl rfl rfl) rsubZ selZ ⟨rfl,rfl⟩
 ·have hR:(tog l).getD p 0 = l[i].1:=by rw [List.getD_eq_getElem?_getD,hp2,g1]; rfl
  rw [hR];rw [ho] at ct ct0 ct1 ct2 ⊢
  generalize l[i] = x at hrd x0 x1
  refine Acf ?_;refine Aat ?_;refine AC ?_
  refine A5 (.q 0 (.q 1 (.q 2 (.q 3 (.q 4 (.q 5 (.q 6 (.q 7 (.q 8 (.q 9 (.q 10 .nil))))))))))) [] rfl (by kernel_rfl) selZ ?_
  refine Ae ?_;refine EJ ?_;refine C7 ?_;refine Adw ?_;refine AN rfl ?_;refine Aad ?_;refine Adr ?_;refine Aab ?_;refine Aaf ?_;refine A4 ?_;refine AC ?_
  refine A5 (.q 0 (.q 1 (.q 2 (.q 3 (.q 4 (.q 5 (.q 6 (.q 7 (.q 8 (.q 9 (.q 10 (.q 11 (.q 12 .nil))))))))))))) [] rfl (by kernel_rfl) selZ ?_
  refine Ae ?_;refine BG ?_;refine Aco ?_;refine BV ?_;refine Adw ?_
  skip
  exact AI (res2 rfl rfl rfl) rsubZ selZ ⟨rfl,rfl⟩
set_option maxHeartbeats 16000000 in
theorem sidePass_spec (ρ:PH) (v:Value) (l:Iv) (b p:Nat) (t:Int) (hv:SpAt ρ v l) (hl:l.length ≤ 4611686018427387903) (hp:p ≤ 2 * l.length) :
  Eng.Spec Tryz.prog (fv 151) [.pointer (some ⟨b,0,none⟩),int t] [ρ] [sng b (.cells #[v,int ((p / 2:Nat):Int),.bool (oddB p)] 232 (0,0))] (fun r H'=>r = .tuple #[] ∧ H' = [sng b (.cells #[v,int ((stp (tog l) t p / 2:Nat):Int),.bool (oddB (stp (tog l) t p))] 232 (0,0))]):=by
 have hn:=sideNext_spec ρ v l b p hv hl hp
 obtain ⟨q,c,rfl,hr⟩:=hv.val encS_len
 refine spec_in (cap:=[]) Tryz.func151 rfl rfl Tryz.ntmps151 rfl envZ (fun N β=>?_)
 refine Aam ?_;refine A3 hn rfl rfl rdZ rfl rfl ?_;rintro _ rfl
 by_cases h1:p < 2 * l.length
 rotate_left
 ·have hs:stp (tog l) t p = p:=by unfold stp; rw [if_neg (by rw [tog_len]; omega)]
  rw [hs,decide_eq_false h1];refine Ac0 ?_;refine BD ?_;refine Abq ?_;refine Aag ?_;exact AI (res0 rfl) rsubZ selZ ⟨rfl,rfl⟩
 rw [decide_eq_true h1]
 by_cases h2:(tog l).getD p 0 = t
 rotate_left
 ·have hs:stp (tog l) t p = p:=by unfold stp; rw [if_neg (fun h=>h2 h.2)]
  rw [hs]
  generalize (tog l).getD p 0 = z at h2
  refine Ac0 ?_;refine BD ?_;refine Acx ?_;refine CG ?_;refine AJ ?_;refine Aag ?_;exact AI (res0 rfl) rsubZ selZ ⟨rfl,rfl⟩
 have hs:stp (tog l) t p = p + 1:=by unfold stp; rw [if_pos ⟨by rw [tog_len]; exact h1,h2⟩]
 rw [hs,h2]
 have hod:=oddB_cases p
 have hi2:(p + 1) / 2 = if oddB p = true then p / 2 + 1 else p / 2:=by
  rcases hod with ⟨ho,hp2⟩ | ⟨ho,hp2⟩
  ·rw [if_pos ho]; omega
  ·rw [if_neg (by rw [ho]; simp)]; omega
 rw [hi2,oddB_succ]
 obtain ⟨i,hi⟩:∃ i,p / 2 = i:=⟨_,rfl⟩
 rw [hi] at hod ⊢;clear hn
 rcases hod with ⟨ho,hp2⟩ | ⟨ho,hp2⟩
 ·rw [ho,if_pos rfl]
  refine Ac0 ?_;refine BD ?_;refine Acx ?_;refine BE ?_;refine Abg ?_;refine Aam ?_;refine Adr ?_;refine Add ?_;refine AB ?_;refine Adr ?_;refine BA ?_;refine BM ?_;refine AH ?_;refine BB ?_; rintro _ _ ⟨rfl,rfl⟩;refine Adx ?_;refine Aax ?_;refine Adr ?_;refine BD ?_;refine BM ?_;refine AH ?_;refine BB ?_; rintro _ _ ⟨rfl,rfl⟩;refine AE ?_;exact CA (res0 rfl) rsubZ selZ ⟨rfl,rfl⟩
 ·rw [ho,if_neg (by simp)]
  refine Ac0 ?_;refine BD ?_;refine Acx ?_;refine BE ?_;refine Abg ?_;refine Aam ?_;refine Adr ?_;refine Aal ?_;refine AA ?_;refine Aax ?_;refine Adr ?_;refine BD ?_;refine BM ?_;refine AH ?_;refine BB ?_; rintro _ _ ⟨rfl,rfl⟩;refine AE ?_;exact CA (res0 rfl) rsubZ selZ ⟨rfl,rfl⟩
end Go.Proofs.YtphehihohghfoaaGreat
/- The ends of two sets, in their order: an iterator. -/
namespace Go.Proofs.YtphehihohghfoaaGreat
open Go.Eng Go.Step
set_option maxRecDepth 100000
set_option maxHeartbeats 4000000

def encPt (x:Int × Bool × Bool):List Value:=[int x.1,.agg #[.bool x.2.1,.bool x.2.2]]
set_option maxHeartbeats 32000000 in
theorem points_iter (ρ τ:PH) (va vb:Value) (a b:Iv) (b1 b2:Nat) (ha:SpAt ρ va a) (hb:SpAt τ vb b) (hla:a.length ≤ 1000000) (hlb:b.length ≤ 1000000) :
  Iter Tryz.prog (.func (.func 149) #[] #[.pointer (some ⟨b1,0,none⟩),.pointer (some ⟨b2,0,none⟩)]) [sng b1 (.cells #[va] 91 (0,0)),sng b2 (.cells #[vb] 91 (0,0)),ρ,τ] ((mrg (tog a) false (tog b) false).map encPt):=by
 intro y S Own Inv Stop Ry hy hyl σ0 hI0
 obtain ⟨yl,rfl⟩:=hyl
 have hna:=fun bx p hp=>sideNext_spec ρ va a bx p ha (by omega) hp
 have hnb:=fun bx p hp=>sideNext_spec τ vb b bx p hb (by omega) hp
 have hpa:=fun bx p t hp=>sidePass_spec ρ va a bx p t ha (by omega) hp
 have hpb:=fun bx p t hp=>sidePass_spec τ vb b bx p t hb (by omega) hp
 obtain ⟨qa,ca,rfl,hra⟩:=ha.val encS_len
 obtain ⟨qb,cb,rfl,hrb⟩:=hb.val encS_len
 have c1:rdc (sng b1 (.cells #[.slice qa a.length ca] 91 (0,0))) b1 0 = some (.slice qa a.length ca):=by rw [rdc_sng]; rfl
 have c2:rdc (sng b2 (.cells #[.slice qb b.length cb] 91 (0,0))) b2 0 = some (.slice qb b.length cb):=by rw [rdc_sng]; rfl
 have la:=tog_len a
 have lb:=tog_len b
 simp only [List.cons_append,List.nil_append]
 refine spec_in (cap:=[.pointer (some ⟨b1,0,none⟩),.pointer (some ⟨b2,0,none⟩)]) Tryz.func149 rfl rfl Tryz.ntmps149 rfl envZ (fun N β=>?_)
 refine AC ?_
 refine DZ (X:=Nat × Nat) [0,1,2] (fun _=>True) (fun x=>[(4,.pointer (some ⟨x.1,0,none⟩)),(5,.pointer (some ⟨x.2,0,none⟩))]) (fun x=>sng x.2 (.cells #[.slice qb b.length cb,int ((0 / 2:Nat):Int),.bool (oddB 0)] 232 (0,0)) :: sng x.1 (.cells #[.slice qa a.length ca,int ((0 / 2:Nat):Int),.bool (oddB 0)] 232 (0,0)) :: Own σ0) pickZ ?_ ?_
 ·refine A5 (.q 0 (.q 1 (.q 3 (.q 4 (.l2 2 .e (.q 6 (.l 5 .e (.q 7 .nil))) 5 .e (.l 2 .e (.q 6 (.q 7 .nil)))))))) [] rfl (by kernel_rfl) Sel.nil ?_
  repeat' (first
   | (refine BV ?_)
   | (refine AQ ?_)
   | (refine CP ?_)
   | (refine A6 ?_)
   | (refine FU ?_ ?_)
   | (refine FP ?_; rintro _ _ ⟨b,rfl,rfl⟩)
   | (refine GV ?_; rintro _ _ ⟨b,rfl,rfl⟩)
   | fail)
  ·refine C8 (_,_) trivial covZ ?_
   exact Sel.refl
  ·refine CF (List.Perm.swap _ _ _) ?_
   refine C8 (_,_) trivial covZ ?_;exact Sel.refl
 rintro ⟨bx,by_⟩ _
 dsimp only
 refine AP ?_
 refine BC [0,1,2,4,5] (X:=Nat × Nat × Nat × S) (0,0,0,σ0) (fun x=>x.1 ≤ (mrg (tog a) false (tog b) false).length ∧ x.2.1 ≤ 2 * a.length ∧ x.2.2.1 ≤ 2 * b.length ∧ (mrg (tog a) false (tog b) false).drop x.1 = mrg ((tog a).drop x.2.1) (oddB x.2.1) ((tog b).drop x.2.2.1) (oddB x.2.2.1) ∧ Inv x.1 x.2.2.2) (fun _=>[]) (fun x=>sng by_ (.cells #[.slice qb b.length cb,int ((x.2.2.1 / 2:Nat):Int),.bool (oddB x.2.2.1)] 232 (0,0)) :: sng bx (.cells #[.slice qa a.length ca,int ((x.2.1 / 2:Nat):Int),.bool (oddB x.2.1)] 232 (0,0)) :: Own x.2.2.2) (fun x=>(2 * a.length - x.2.1) + (2 * b.length - x.2.2.1)) pickZ ⟨by dsimp only; omega,by dsimp only; omega,by dsimp only; omega,rfl,hI0⟩ covZ Sel.refl ?_
 rintro ⟨k,p,q,σ'⟩ ⟨hk,hp,hq,hS,hI⟩
 dsimp only at hk hp hq hS hI ⊢
 have h1:=hna bx p hp
 have h2:=hnb by_ q hq
 refine AP ?_;refine Aad ?_;refine A3 h1 rfl rfl rdZ rfl rfl ?_;rintro _ rfl;refine Ac0 ?_;refine A3 h2 rfl rfl rdZ rfl rfl ?_;rintro _ rfl
 generalize hm:(tog a).getD p 0 = m
 generalize hn:(tog b).getD q 0 = n
 by_cases h1:p < 2 * a.length
 ·rw [decide_eq_true h1]
  by_cases h2:q < 2 * b.length ∧ n < m
  ·have hX:nxtT (tog a) (tog b) p q = n:=by unfold nxtT; rw [if_pos (by omega),if_pos (by rw [hm,hn]; omega),hn]
   rw [decide_eq_true h2.1]
   have h2n:=h2.2
   have hlive:p < (tog a).length ∨ q < (tog b).length:=by omega
   have hS':=mrg_at (by omega) (by omega) hlive
   have hgo:=stp_go hlive
   rw [hX] at hS' hgo;rw [← hS] at hS'
   obtain ⟨g1,g2,g3⟩:=drop_head hS'
   have p1:=stp_le (A:=tog a) (t:=n) (p:=p) (by omega)
   have q1:=stp_le (A:=tog b) (t:=n) (p:=q) (by omega)
   have hy1:=hy k σ' (encPt (n,oddB (stp (tog a) n p),oddB (stp (tog b) n q))) (by rw [List.getElem?_map,g1]; rfl) hI
   have k1:=hpa bx p n hp
   have k2:=hpb by_ q n hq
   generalize stp (tog a) n p = p' at g2 hy1 k1 p1 hgo
   generalize stp (tog b) n q = q' at g2 hy1 k2 q1 hgo
   refine Ac ?_;refine BD ?_;refine Aaw ?_;refine Abg ?_;refine Ab4 ?_;refine Aam ?_;refine BD ?_;refine Aax ?_;refine Acx ?_;refine A9 ?_;refine AL ?_;refine AJ ?_;refine Add ?_;refine AB ?_;refine Ab ?_;refine AB ?_;refine BF k1 rfl rfl takesZ rdZ rfl rfl ?_;rintro _ _ ⟨rfl,rfl⟩;refine AE ?_;refine Abn ?_;refine BF k2 rfl rfl takesZ rdZ rfl rfl ?_;rintro _ _ ⟨rfl,rfl⟩;refine Aak ?_
   refine A5 (.q 0 (.q 1 (.q 2 (.q 3 (.q 4 (.q 5 (.q 6 (.q 7 (.q 8 (.q 9 (.q 10 (.l 11 .b (.q 12 .nil))))))))))))) [] rfl (by kernel_rfl) Sel.nil ?_
   refine Aa6 ?_;refine Ae ?_
   focus ((refine' CT rfl _ rfl rfl rfl rfl _; rotate_left; (focus (apply DH; exact rfl; exact rfl; exact rfl; exact rfl; exact rfl; exact rfl; exact rfl))))
   refine CO (DV rfl hy1 rfl rfl (Takes.skip (Takes.skip Takes.all)) (fun τ hτ=>.inl (by simp [hτ])) rfl rfl (fun _ _ _ w hw=>hw.sel Sel.nil) ?_)
   rintro _ H' ⟨σ1,rfl,⟨rfl,hI1⟩ | ⟨rfl,hSt⟩⟩
   ·refine EB (H':=_ :: _ :: Own σ1) (List.perm_append_comm (l₂:=[_,_])) ?_
    refine CR ?_;refine Aby ?_;refine A4 ?_
    exact AZ (k + 1,p',q',σ1) ⟨by dsimp only; omega,by dsimp only; omega,by dsimp only; omega,g2,hI1⟩ (by dsimp only; omega) covZ Sel.refl
   ·refine CR ?_
    refine Abs ?_
    exact AI (res0 rfl) (fun _ h=>h) Sel.left ⟨σ1,rfl,.inr hSt⟩
  ·have hX:nxtT (tog a) (tog b) p q = m:=by unfold nxtT; rw [if_pos (by omega),if_neg (by rw [hm,hn]; omega),hm]
   by_cases h3:q < 2 * b.length
   ·rw [decide_eq_true h3]
    have h2n:¬ n < m:=fun h=>h2 ⟨h3,h⟩
    have hlive:p < (tog a).length ∨ q < (tog b).length:=by omega
    have hS':=mrg_at (by omega) (by omega) hlive
    have hgo:=stp_go hlive
    rw [hX] at hS' hgo;rw [← hS] at hS'
    obtain ⟨g1,g2,g3⟩:=drop_head hS'
    have p1:=stp_le (A:=tog a) (t:=m) (p:=p) (by omega)
    have q1:=stp_le (A:=tog b) (t:=m) (p:=q) (by omega)
    have hy1:=hy k σ' (encPt (m,oddB (stp (tog a) m p),oddB (stp (tog b) m q))) (by rw [List.getElem?_map,g1]; rfl) hI
    have k1:=hpa bx p m hp
    have k2:=hpb by_ q m hq
    generalize stp (tog a) m p = p' at g2 hy1 k1 p1 hgo
    generalize stp (tog b) m q = q' at g2 hy1 k2 q1 hgo
    refine Ac ?_;refine BD ?_;refine Aaw ?_;refine Abg ?_;refine Ab4 ?_;refine Aam ?_;refine BD ?_;refine Aax ?_;refine Acx ?_;refine AY ?_;refine AL ?_;refine Abg ?_;refine Abn ?_;refine BF k1 rfl rfl takesZ rdZ rfl rfl ?_;rintro _ _ ⟨rfl,rfl⟩;refine AE ?_;refine Abn ?_;refine BF k2 rfl rfl takesZ rdZ rfl rfl ?_;rintro _ _ ⟨rfl,rfl⟩;refine Aak ?_
    refine A5 (.q 0 (.q 1 (.q 2 (.q 3 (.q 4 (.q 5 (.q 6 (.q 7 (.q 8 (.q 9 (.q 10 (.l 11 .b (.q 12 .nil))))))))))))) [] rfl (by kernel_rfl) Sel.nil ?_
    refine Aa6 ?_;refine Ae ?_
    focus ((refine' CT rfl _ rfl rfl rfl rfl _; rotate_left; (focus (apply DH; exact rfl; exact rfl; exact rfl; exact rfl; exact rfl; exact rfl; exact rfl))))
    refine CO (DV rfl hy1 rfl rfl (Takes.skip (Takes.skip Takes.all)) (fun τ hτ=>.inl (by simp [hτ])) rfl rfl (fun _ _ _ w hw=>hw.sel Sel.nil) ?_)
    rintro _ H' ⟨σ1,rfl,⟨rfl,hI1⟩ | ⟨rfl,hSt⟩⟩
    ·refine EB (H':=_ :: _ :: Own σ1) (List.perm_append_comm (l₂:=[_,_])) ?_
     refine CR ?_;refine Aby ?_;refine A4 ?_
     exact AZ (k + 1,p',q',σ1) ⟨by dsimp only; omega,by dsimp only; omega,by dsimp only; omega,g2,hI1⟩ (by dsimp only; omega) covZ Sel.refl
    ·refine CR ?_
     refine Abs ?_
     exact AI (res0 rfl) (fun _ h=>h) Sel.left ⟨σ1,rfl,.inr hSt⟩
   ·rw [decide_eq_false h3]
    have hlive:p < (tog a).length ∨ q < (tog b).length:=by omega
    have hS':=mrg_at (by omega) (by omega) hlive
    have hgo:=stp_go hlive
    rw [hX] at hS' hgo;rw [← hS] at hS'
    obtain ⟨g1,g2,g3⟩:=drop_head hS'
    have p1:=stp_le (A:=tog a) (t:=m) (p:=p) (by omega)
    have q1:=stp_le (A:=tog b) (t:=m) (p:=q) (by omega)
    have hy1:=hy k σ' (encPt (m,oddB (stp (tog a) m p),oddB (stp (tog b) m q))) (by rw [List.getElem?_map,g1]; rfl) hI
    have k1:=hpa bx p m hp
    have k2:=hpb by_ q m hq
    generalize stp (tog a) m p = p' at g2 hy1 k1 p1 hgo
    generalize stp (tog b) m q = q' at g2 hy1 k2 q1 hgo
    refine Ac ?_;refine BD ?_;refine Aaw ?_;refine Abg ?_;refine Ab4 ?_;refine Aam ?_;refine BD ?_;refine Aax ?_;refine Adq ?_;refine Abg ?_;refine Abn ?_;refine BF k1 rfl rfl takesZ rdZ rfl rfl ?_;rintro _ _ ⟨rfl,rfl⟩;refine AE ?_;refine Abn ?_;refine BF k2 rfl rfl takesZ rdZ rfl rfl ?_;rintro _ _ ⟨rfl,rfl⟩;refine Aak ?_
    refine A5 (.q 0 (.q 1 (.q 2 (.q 3 (.q 4 (.q 5 (.q 6 (.q 7 (.q 8 (.q 9 (.q 10 (.l 11 .b (.q 12 .nil))))))))))))) [] rfl (by kernel_rfl) Sel.nil ?_
    refine Aa6 ?_;refine Ae ?_
    focus ((refine' CT rfl _ rfl rfl rfl rfl _; rotate_left; (focus (apply DH; exact rfl; exact rfl; exact rfl; exact rfl; exact rfl; exact rfl; exact rfl))))
    refine CO (DV rfl hy1 rfl rfl (Takes.skip (Takes.skip Takes.all)) (fun τ hτ=>.inl (by simp [hτ])) rfl rfl (fun _ _ _ w hw=>hw.sel Sel.nil) ?_)
    rintro _ H' ⟨σ1,rfl,⟨rfl,hI1⟩ | ⟨rfl,hSt⟩⟩
    ·refine EB (H':=_ :: _ :: Own σ1) (List.perm_append_comm (l₂:=[_,_])) ?_
     refine CR ?_;refine Aby ?_;refine A4 ?_
     exact AZ (k + 1,p',q',σ1) ⟨by dsimp only; omega,by dsimp only; omega,by dsimp only; omega,g2,hI1⟩ (by dsimp only; omega) covZ Sel.refl
    ·refine CR ?_
     refine Abs ?_
     exact AI (res0 rfl) (fun _ h=>h) Sel.left ⟨σ1,rfl,.inr hSt⟩
 ·rw [decide_eq_false h1]
  by_cases h2:q < 2 * b.length
  ·have hX:nxtT (tog a) (tog b) p q = n:=by unfold nxtT; rw [if_neg (by omega),hn]
   rw [decide_eq_true h2]
   have hlive:p < (tog a).length ∨ q < (tog b).length:=by omega
   have hS':=mrg_at (by omega) (by omega) hlive
   have hgo:=stp_go hlive
   rw [hX] at hS' hgo;rw [← hS] at hS'
   obtain ⟨g1,g2,g3⟩:=drop_head hS'
   have p1:=stp_le (A:=tog a) (t:=n) (p:=p) (by omega)
   have q1:=stp_le (A:=tog b) (t:=n) (p:=q) (by omega)
   have hy1:=hy k σ' (encPt (n,oddB (stp (tog a) n p),oddB (stp (tog b) n q))) (by rw [List.getElem?_map,g1]; rfl) hI
   have k1:=hpa bx p n hp
   have k2:=hpb by_ q n hq
   generalize stp (tog a) n p = p' at g2 hy1 k1 p1 hgo
   generalize stp (tog b) n q = q' at g2 hy1 k2 q1 hgo
   refine Ac ?_;refine BD ?_;refine Aax ?_;refine BD ?_;refine AL ?_;refine Aal ?_;refine Ab4 ?_;refine Aam ?_;refine BD ?_;refine Ack ?_;refine AL ?_;refine Add ?_;refine AB ?_;refine Ab ?_;refine AB ?_;refine BF k1 rfl rfl takesZ rdZ rfl rfl ?_;rintro _ _ ⟨rfl,rfl⟩;refine AE ?_;refine Abn ?_;refine BF k2 rfl rfl takesZ rdZ rfl rfl ?_;rintro _ _ ⟨rfl,rfl⟩;refine Aak ?_
   refine A5 (.q 0 (.q 1 (.q 2 (.q 3 (.q 4 (.q 5 (.q 6 (.q 7 (.q 8 (.q 9 (.q 10 (.l 11 .b (.q 12 .nil))))))))))))) [] rfl (by kernel_rfl) Sel.nil ?_
   refine Aa6 ?_;refine Ae ?_
   focus ((refine' CT rfl _ rfl rfl rfl rfl _; rotate_left; (focus (apply DH; exact rfl; exact rfl; exact rfl; exact rfl; exact rfl; exact rfl; exact rfl))))
   refine CO (DV rfl hy1 rfl rfl (Takes.skip (Takes.skip Takes.all)) (fun τ hτ=>.inl (by simp [hτ])) rfl rfl (fun _ _ _ w hw=>hw.sel Sel.nil) ?_)
   rintro _ H' ⟨σ1,rfl,⟨rfl,hI1⟩ | ⟨rfl,hSt⟩⟩
   ·refine EB (H':=_ :: _ :: Own σ1) (List.perm_append_comm (l₂:=[_,_])) ?_
    refine CR ?_;refine Aby ?_;refine A4 ?_
    exact AZ (k + 1,p',q',σ1) ⟨by dsimp only; omega,by dsimp only; omega,by dsimp only; omega,g2,hI1⟩ (by dsimp only; omega) covZ Sel.refl
   ·refine CR ?_
    refine Abs ?_
    exact AI (res0 rfl) (fun _ h=>h) Sel.left ⟨σ1,rfl,.inr hSt⟩
  ·rw [decide_eq_false h2]
   have hpe:p = (tog a).length:=by omega
   have hqe:q = (tog b).length:=by omega
   rw [hpe,hqe,mrg_end] at hS
   have hke:k = (mrg (tog a) false (tog b) false).length:=by
    have:=List.drop_eq_nil_iff.1 hS
    omega
   refine Ac ?_;refine BD ?_;refine Aax ?_;refine BD ?_;refine AL ?_;refine Aag ?_
   refine AI (res0 rfl) (fun _ h=>h) (Sel.skip (Sel.skip Sel.refl)) ⟨σ',rfl,.inl ?_⟩
   rw [List.length_map,← hke];exact hI
end Go.Proofs.YtphehihohghfoaaGreat
/- Sets combined. -/
namespace Go.Proofs.YtphehihohghfoaaGreat
open Go.Eng Go.Step
set_option maxRecDepth 100000
set_option maxHeartbeats 4000000

theorem points_spec (v u:Value) (hv:v.oneCell' = true) (hu:u.oneCell' = true) :
  Eng.Spec Tryz.prog (fv 133) [v,u] [] [] (fun r H'=>∃ b1 b2,r = .func (.func 149) #[] #[.pointer (some ⟨b1,0,none⟩),.pointer (some ⟨b2,0,none⟩)] ∧ H' = [sng b2 (.cells #[u] 91 (0,0)),sng b1 (.cells #[v] 91 (0,0))]):=by
 refine spec_in (cap:=[]) Tryz.func133 rfl rfl Tryz.ntmps133 rfl envZ (fun N β=>?_)
 refine Aa ?_;refine BI (CX rfl hv) rfl rfl rfl ?_;rintro _ _ ⟨b1,rfl,rfl⟩;refine BI (CX rfl hu) rfl rfl rfl ?_;rintro _ _ ⟨b2,rfl,rfl⟩;refine Aab ?_;refine Aa ?_;refine BX ?_;refine Aab ?_;exact AI (res1 rfl rfl) rsubZ selZ ⟨b1,b2,rfl,rfl⟩
set_option maxHeartbeats 32000000 in
theorem ivCombine_spec (ρ τ:PH) (va vb:Value) (gf:FuncId) (a b:Iv) (f:Bool → Bool → Bool) (ha:SpAt ρ va a) (hb:SpAt τ vb b) (h0a:chkI a = 0) (h0b:chkI b = 0) (hlen:a.length + b.length ≤ 1000) (hf:f false false = false)
  (hfn:∀ x y,Ans Tryz.prog (.func (.func gf) #[] #[]) [.bool x,.bool y] [] (fun r=>r = .bool (f x y))) :
  Makes Tryz.prog (fv 99) [va,vb,.func (.func gf) #[] #[]] [ρ,τ] (fun r σ=>∃ u,r = .tuple #[u,int 0] ∧ OwnS 93 2 u (combI f a b).length ((combI f a b).flatMap encS) σ):=by
 have hca:=ivCheck_spec ρ va a ha (by omega)
 have hcb:=ivCheck_spec τ vb b hb (by omega)
 rw [h0a] at hca;rw [h0b] at hcb
 have hpts:=fun b1 b2=>points_iter ρ τ va vb a b b1 b2 ha hb (by omega) (by omega)
 have hcl:=(combI_ok hf (chkI_norm h0a).2.1 (chkI_norm h0b).2.1).2.2
 have hml:=mrg_len _ (tog a) false (tog b) false (Nat.le_refl _)
 rw [tog_len,tog_len] at hml
 obtain ⟨qa,ca,rfl,_⟩:=ha.val encS_len
 obtain ⟨qb,cb,rfl,_⟩:=hb.val encS_len
 refine spec_in (cap:=[]) Tryz.func99 rfl rfl Tryz.ntmps99 rfl envZ (fun N β=>?_)
 refine BY ?_;refine Aa ?_;refine D9 ?_; rintro _ _ ⟨b,rfl,rfl⟩;refine Aan ?_;refine Aam ?_
 revert b; intro b5
 refine AS (ρ:=sng b5 _) takeZ ?_
 have g5:rdc (sng b5 (.cells #[.func (.func gf) #[] #[]] 183 (0,0))) b5 0 = some (.func (.func gf) #[] #[]):=by rw [rdc_sng]; rfl
 refine A3 hca rfl rfl rdZ rfl rfl ?_;rintro _ rfl;refine BE ?_;refine Aax ?_;refine A3 hcb rfl rfl rdZ rfl rfl ?_;rintro _ rfl;refine BE ?_;refine Abg ?_;refine Aa ?_;refine BQ ?_; rintro _ _ ⟨b,rfl,rfl⟩;refine AE ?_;refine Aa ?_;refine BQ ?_; rintro _ _ ⟨b,rfl,rfl⟩;refine BB ?_; rintro _ _ ⟨rfl,rfl⟩;refine Aak ?_;refine Abn ?_
 revert b; intro b9
 revert b; intro b8
 refine BF (points_spec (.slice qa a.length ca) (.slice qb b.length cb) rfl rfl) rfl rfl Takes.nil (fun τ hτ=>by simp at hτ) rfl rfl ?_
 rintro _ _ ⟨b1,b2,rfl,rfl⟩;refine AS (ρ:=sng b1 _) takeZ ?_;refine AS (ρ:=sng b2 _) takeZ ?_;refine AE ?_;refine AP ?_
 refine CW (gf:=149) (cap:=[.pointer (some ⟨b1,0,none⟩),.pointer (some ⟨b2,0,none⟩)]) (ps:=[24,25]) (X:=Value × Bool × PH) rfl Tryz.func149 rfl rfl
  (hpts b1 b2) ?_
  (fun i x=>x.2.1 = oddB (mcomb f ((mrg (tog a) false (tog b) false).take i) []).length ∧ OwnS 93 2 x.1 (spans (mcomb f ((mrg (tog a) false (tog b) false).take i) [])).length ((spans (mcomb f ((mrg (tog a) false (tog b) false).take i) [])).flatMap encS) x.2.2)
  (fun x=>[sng b8 (.cells #[x.1] 91 (0,0)),sng b9 (.cells #[.bool x.2.1] 4 (0,0)),x.2.2]) (fun _ _=>False) (.slice none 0 0,false,emp) rfl takesZ ⟨rfl,OwnS.nil _ _⟩ ?_ ?_ ?_
 ·intro σ' hσ
  simp only [List.mem_cons,List.not_mem_nil,or_false] at hσ ⊢
  rcases hσ with h | h | h | h <;> simp [h]
 ·rintro lo r i ⟨u,ins,σ⟩ vs hvs ⟨hins,hO⟩ hps has hbd hst hpe hfr
  obtain ⟨st,pe,fnn,tm,prm,asg,bdy,df⟩:=r
  simp only at hps has hbd hst hpe hfr;subst hps has hbd hst hpe;rw [List.getElem?_map] at hvs
  obtain ⟨⟨t,x,y⟩,hc,rfl⟩:=Option.map_eq_some_iff.1 hvs
  have hnx:=mcomb_next f hc []
  have hOl:=mcomb_len f ((mrg (tog a) false (tog b) false).take i) []
  have hti:((mrg (tog a) false (tog b) false).take i).length ≤ (mrg (tog a) false (tog b) false).length:=by rw [List.length_take]; omega
  dsimp only at hins hO
  have hsl:=spans_len (mcomb f ((mrg (tog a) false (tog b) false).take i) [])
  simp only [hnx]
  generalize mcomb f ((mrg (tog a) false (tog b) false).take i) [] = O at hins hO hOl hsl
  simp only [List.length_nil] at hOl
  have hone:∀ z n (xs:List Value) (χ:PH),OwnS 93 2 z n xs χ → z.oneCell' = true:=fun z n xs χ h=>by obtain ⟨_,_,rfl⟩:=h.form; rfl
  have hu1:=hone _ _ _ _ hO
  have hfxy:=hfn x y
  have hm1:mcomb1 f O (t,x,y) = if f x y = oddB O.length then O else O ++ [t]:=rfl
  refine yield_spec hfr rfl (by intro p hp; simp at hp; omega) putiZ (fun N' β'=>?_)
  dsimp only
  refine Aaj ?_;refine AA ?_;refine AW ?_; rintro _ _ ⟨b,rfl,rfl⟩;refine AV ?_; rintro _ _ ⟨rfl,rfl⟩;refine Aef ?_;refine CV takeZ rfl ?_
  revert b; intro bx
  refine AP ?_;refine Abb ?_
  focus ((refine CE (GW rfl rfl rfl rfl (by decide)) rfl rfl rfl ?_))
  refine AF ?_
  focus ((refine CE (GX rfl rfl rfl rfl (by decide)) rfl rfl rfl ?_))
  refine AF ?_;refine A3 hfxy rfl rfl rdZ rfl rfl ?_;rintro _ rfl
  cases hfv:f x y with
  | true =>
   cases ins with
   | true =>
    rw [hfv,← hins,if_pos rfl] at hm1;refine Aab ?_;refine Aat ?_;refine Abn ?_;refine AF ?_;refine BD ?_;refine Ab2 ?_;refine AN rfl ?_;refine Aad ?_;refine BD ?_;refine AB ?_;refine AG rfl rfl rfl ?_;refine Abx ?_;refine Aaf ?_;refine Ach ?_;refine BB ?_; rintro _ _ ⟨rfl,rfl⟩;refine Aea ?_
    exact BP takeZ rsubZ selZ ⟨(u,true,σ),.inl ⟨rfl,⟨by rw [hm1]; exact hins,by rw [hm1]; exact hO⟩,rfl⟩⟩
   | false =>
    rw [hfv,← hins,if_neg (by simp)] at hm1
    have hsp:=spans_even t hins.symm
    refine Aab ?_;refine Aat ?_;refine Abn ?_;refine AF ?_;refine BD ?_;refine Ab2 ?_;refine AM rfl ?_;refine AA ?_;refine Acb ?_;refine BS ?_;refine BH ?_; rintro _ _ ⟨b,rfl,rfl⟩
    refine BI (B6 (by_:=16) (s:=2) (news:=[int t,int 0]) rfl rfl rfl rfl rfl rfl rfl hO takeZ (cells_own memZ) rfl (by (repeat (first | exact (fun v hv=>absurd hv List.not_mem_nil) | (refine List.forall_mem_cons.2 ⟨?_,?_⟩; (focus (first | exact rfl | assumption))))); first | done | fail) (by omega) (by simp only [maxLen]; omega) (by omega)) rfl rfl rfl ?_
    rintro u1 _ ⟨σ1,hO1,rfl⟩
    have hu2:=hone _ _ _ _ hO1
    refine BB ?_; rintro _ _ ⟨rfl,rfl⟩;refine AE ?_;refine Ach ?_;refine BB ?_; rintro _ _ ⟨rfl,rfl⟩;refine Aea ?_;refine BP takeZ rsubZ selZ ⟨(u1,true,σ1),.inl ⟨rfl,⟨?_,?_⟩,rfl⟩⟩
    ·dsimp only
     rw [hm1,List.length_append,List.length_singleton,oddB_succ,← hins]; rfl
    ·dsimp only
     rw [hm1,hsp,List.length_append,List.flatMap_append];exact hO1
  | false =>
   cases ins with
   | false =>
    rw [hfv,← hins,if_pos rfl] at hm1;refine Aab ?_;refine Aat ?_;refine Aad ?_;refine Aaw ?_;refine Abx ?_;refine AN rfl ?_;refine Aad ?_;refine BD ?_;refine AB ?_;refine AF ?_;refine Ab2 ?_;refine Aaf ?_;refine Ach ?_;refine BB ?_; rintro _ _ ⟨rfl,rfl⟩;refine Aea ?_
    exact BP takeZ rsubZ selZ ⟨(u,false,σ),.inl ⟨rfl,⟨by rw [hm1]; exact hins,by rw [hm1]; exact hO⟩,rfl⟩⟩
   | true =>
    rw [hfv,← hins,if_neg (by simp)] at hm1
    obtain ⟨l,c,e1,e2⟩:=spans_odd t hins.symm
    rw [e1] at hO hsl
    have hll:(l ++ [(c,(0:Int))]).length = l.length + 1:=by simp
    obtain ⟨bu,cu,rfl⟩:=hO.formP (by omega)
    have hget:(l ++ [(c,(0:Int))])[(l ++ [(c,(0:Int))]).length - 1]? = some (c,0):=by simp
    refine Aab ?_;refine Aat ?_;refine Aad ?_;refine Aaw ?_;refine Abx ?_;refine AN rfl ?_;refine Aad ?_;refine BD ?_;refine AB ?_;refine AF ?_;refine Ab2 ?_;refine AM rfl ?_;refine AA ?_;refine AF ?_;refine AF ?_;refine AX ?_;refine C6 ?_;refine AB ?_;refine A8 ?_;refine DD ?_
    refine CD (EZ encS_len (s:=2) ((l ++ [(c,(0:Int))]).length - 1) 1 (c,t) hO rfl (by simp; rfl) (by decide) hget rfl rfl rfl rfl takeZ) rfl rfl ?_
    rintro _ _ ⟨rfl,σ1,hO1,rfl⟩;refine AE ?_;refine Ach ?_;refine BB ?_; rintro _ _ ⟨rfl,rfl⟩;refine Aea ?_;refine BP takeZ rsubZ selZ ⟨(.slice (some ⟨bu,0,none⟩) (l ++ [(c,(0:Int))]).length cu,false,σ1),.inl ⟨rfl,⟨?_,?_⟩,rfl⟩⟩
    ·dsimp only
     rw [hm1,List.length_append,List.length_singleton,oddB_succ,← hins]; rfl
    ·dsimp only
     rw [hm1,e2]
     have es:(l ++ [(c,(0:Int))]).set ((l ++ [(c,(0:Int))]).length - 1) (c,t) = l ++ [(c,t)]:=by simp
     rw [es] at hO1
     simpa using hO1
 ·rintro b2' ⟨u,ins,σ⟩ ⟨hins,hO⟩
  rw [List.length_map,List.take_length] at hins hO
  dsimp only at hins hO
  have hO2:OwnS 93 2 u (combI f a b).length ((combI f a b).flatMap encS) σ:=hO
  obtain ⟨p,c,rfl⟩:=hO2.form
  clear hO
  generalize combI f a b = out at hO2 hcl
  refine A4 ?_;refine AC ?_;refine Abb ?_;refine AX ?_;refine Aed ?_;refine Abb ?_;refine Aan ?_;exact D5 (Marks.cons .here .nil) (res2 rfl rfl rfl) rsubZ selZ ⟨σ,⟨_,rfl,hO2⟩,rfl⟩
 ·rintro _ _ _ h; exact h.elim
end Go.Proofs.YtphehihohghfoaaGreat
/- How many ticks a set has; the sets of a set of vertices have as many as it has. No program in sight. No conditions. -/
namespace Go.Step
open Go.Flow (sideChk capacitySpec)
variable {qs:List Int} {cs:List Ct} {bs:List Bk} {hs:List Hd} {d:Dm}
end Go.Step
/- The sides of a cut are short. No program in sight. No conditions. -/
namespace Go.Step
theorem norm_len:∀ {l:Iv} {a b:Int},NormI l → (∀ x ∈ l,a ≤ x.1 ∧ x.2 ≤ b) → (l.length:Int) ≤ max 0 (b - a)
  | [],a,b,_,_=>by simp only [List.length_nil]; omega
  | x :: l,a,b,h,hb=>by
    have h1:=hb x (by simp)
    have h2:=h.1 x (by simp)
    have hp:=List.pairwise_cons.1 h.2
    have ih:=norm_len (l:=l) (a:=x.2 + 1) (b:=b) ⟨fun y hy=>h.1 y (by simp [hy]),hp.2⟩ (fun y hy=>by
      have h3:=hp.1 y hy
      have h4:=hb y (by simp [hy])
      exact ⟨by omega,h4.2⟩)
    rw [List.length_cons];omega
section
variable {qs:List Int} {cs:List Ct} {bs:List Bk} {hs:List Hd} {d:Dm}
theorem sideI_small (h:VOk qs cs bs hs d) (side:List Int) (n:Int):(sideI d side n).length ≤ 102:=by
  have hdm:=h.dm
  unfold okDm at hdm
  have:=norm_len (sideI_ok d side n).1 (sideI_in (d:=d) (by omega) side n)
  omega
theorem sideI_chk (h:VOk qs cs bs hs d) (side:List Int) (n:Int):chkI (sideI d side n) = 0:=by
  have hdm:=h.dm
  unfold okDm at hdm
  have h1:=(sideI_ok d side n).1
  have h2:=sideI_small h side n
  refine chkI_of (by omega) h1 (fun x hx=>?_)
  have a:=sideI_in (d:=d) (by omega) side n x hx
  have b:=h1.1 x hx
  exact ⟨b,by omega,by omega⟩
end
end Go.Step
/- Cuts of sets of vertices. -/
namespace Go.Proofs.YtphehihohghfoaaGreat
open Go.Eng Go.Step
set_option maxRecDepth 100000
set_option maxHeartbeats 4000000

def rowsQ (L:List Sq):List Value:=L.map (fun x=>.slice x.1.1 x.2.length x.1.2)
theorem rowsQ_flat:∀ L:List Sq,L.flatMap encQ = rowsQ L
 | []=>rfl
 | x :: L=>by
  rw [List.flatMap_cons,rowsQ_flat L]
  rfl
theorem rowsQ_len (L:List Sq):(rowsQ L).length = L.length:=List.length_map _
theorem rowsQ_set (L:List Sq) (k:Nat) (z:Sq):(rowsQ L).toArray.setIfInBounds k (.slice z.1.1 z.2.length z.1.2) = (rowsQ (L.set k z)).toArray:=by
 apply Array.toList_inj.1
 rw [Array.toList_setIfInBounds];unfold rowsQ;rw [List.map_set]
theorem rowsQ_rep (n:Nat):List.replicate n (Value.slice none 0 0) = rowsQ (List.replicate n ((none,0),[])):=by
 unfold rowsQ;rw [List.map_replicate]
 rfl
theorem exOr_spec (x y:Bool):Ans Tryz.prog (fv 100) [.bool x,.bool y] [] (fun r=>r = .bool (x || y)):=by
 refine spec_in (cap:=[]) Tryz.func100 rfl rfl Tryz.ntmps100 rfl envZ (fun N β=>?_)
 cases x <;> cases y
 all_goals
  repeat' (first
   | (refine AB ?_)
   | (refine AD ?_)
   | (refine AL ?_)
   | (refine AJ ?_)
   | (refine AC ?_)
   | (refine AA ?_)
   | (refine AE ?_)
   | (refine AG rfl rfl rfl ?_)
   | fail)
  exact AI (res1 rfl rfl) rsubZ selZ ⟨rfl,rfl⟩
theorem exUnion_spec (ρ τ:PH) (va vb:Value) (a b:Iv) (ha:SpAt ρ va a) (hb:SpAt τ vb b) (h0a:chkI a = 0) (h0b:chkI b = 0) (hlen:a.length + b.length ≤ 1000) :
  Makes Tryz.prog (fv 63) [va,vb] [ρ,τ] (fun r σ=>∃ u,r = .tuple #[u,int 0] ∧ OwnS 93 2 u (combI (fun x y=>x || y) a b).length ((combI (fun x y=>x || y) a b).flatMap encS) σ):=by
 have h:=ivCombine_spec ρ τ va vb 100 a b (fun x y=>x || y) ha hb h0a h0b hlen rfl exOr_spec
 obtain ⟨qa,ca,rfl,_⟩:=ha.val encS_len
 obtain ⟨qb,cb,rfl,_⟩:=hb.val encS_len
 refine spec_in (cap:=[]) Tryz.func63 rfl rfl Tryz.ntmps63 rfl envZ (fun N β=>?_)
 refine Acf ?_;refine Abn ?_;refine BZ h rfl rfl rdZ rfl rfl ?_;rintro _ σ ⟨u,rfl,hO⟩;refine Aa5 ?_;refine Aan ?_;exact AI (res2 rfl rfl rfl) rsubZ selZ ⟨σ,⟨u,rfl,hO⟩,rfl⟩
set_option maxHeartbeats 32000000 in
theorem Sides_spec {ρ τ σ υ:PH} {pq pc pb ph:Option Addr} {kq kc kb kh:Nat} {qs:List Int} {cs:List Ct} {bs:List Bk} {hs:List Hd} (hT:TbAt ρ τ σ υ pq pc pb ph kq kc kb kh qs cs bs hs) (d:Dm) (ω:PH) (u0:Value) (side:List Int) (hu:IntsAt ω u0 side) (hsl:side.length ≤ 1000000) :
  Eng.Spec Tryz.prog (fv 31) [.agg #[.slice pq qs.length kq,.slice pc cs.length kc,.slice pb bs.length kb,.slice ph hs.length kh],.agg #[int d.s,int d.d,int d.v,int d.r,int d.e],u0] [ρ,τ,σ,υ,ω] [] (fun r H'=>∃ (L:List Sq) (u:Value) (σ' χ':PH),r = .tuple #[u,int (sidesE qs cs bs hs d side)] ∧ H' = [σ',χ'] ∧ cuL L = (if sidesE qs cs bs hs d side = 0 then sidesC d qs.length side else []) ∧ CutL σ' χ' u L):=by
 obtain ⟨pf,kf,rfl,hrf⟩:=hu.val Eng.encI_len
 have hnil:CutL emp emp (.slice none 0 0) []:=⟨⟨rfl,.inl ⟨rfl,none,0,rfl⟩⟩,by simp⟩
 refine spec_in (cap:=[]) Tryz.func31 rfl rfl Tryz.ntmps31 rfl envZ (fun N β=>?_)
 refine Aa ?_;refine BI (BK rfl) rfl rfl rfl ?_;rintro _ _ ⟨b1,rfl,rfl⟩;refine AS (ρ:=sng b1 _) takeZ ?_
 have ct:=rdB b1 29 [.slice pq qs.length kq,.slice pc cs.length kc,.slice pb bs.length kb,.slice ph hs.length kh]
 have ct0:=rdC ct 0
 have ct1:=rdC ct 1
 have ct2:=rdC ct 2
 have ct3:=rdC ct 3
 have ctp:RdP (sng b1 (.cells #[.slice pq qs.length kq,.slice pc cs.length kc,.slice pb bs.length kb,.slice ph hs.length kh] 29 (0,0))) b1 0 [.slice pq qs.length kq,.slice pc cs.length kc]:=rdP_sng (xs:=[.slice pq qs.length kq,.slice pc cs.length kc,.slice pb bs.length kb,.slice ph hs.length kh]) rfl
 refine BI (BK rfl) rfl rfl rfl ?_;rintro _ _ ⟨b2,rfl,rfl⟩;refine AS (ρ:=sng b2 _) takeZ ?_
 have cd:=rdB b2 31 [int d.s,int d.d,int d.v,int d.r,int d.e]
 have cd0:=rdC cd 0
 have cd1:=rdC cd 1
 have cd2:=rdC cd 2
 have cd3:=rdC cd 3
 have cd4:=rdC cd 4
 refine BY ?_;refine BY ?_;refine Aan ?_;refine Ab5 ?_;refine BF (build_spec hT d) rfl rfl Takes.nil rdZ rfl rfl ?_;rintro _ H' (⟨hv,rfl,rfl⟩ | ⟨hv,bw,bm,pl0,χ,M,rfl,rfl,hO,hM⟩)
 ·have hE:sidesE qs cs bs hs d side = 1:=by unfold sidesE; rw [if_neg (by simp [hv])]
  rw [hE];refine Ac ?_;refine Ad4 ?_;refine Acf ?_;exact AI (res2 rfl rfl rfl) rsubZ selZ ⟨[],_,emp,emp,rfl,rfl,rfl,hnil⟩
 have hEv:sidesE qs cs bs hs d side = (Go.Flow.capacitySpec (vsN qs d) (arcsG qs cs bs hs d) side).2:=by unfold sidesE; rw [if_pos hv]
 have h:=vok hv
 have h0:=vokB hv
 have hdm:=h.dm
 unfold okDm at hdm
 have hnq:=h.nq
 obtain ⟨pl,kp,rfl⟩:=hO.form
 have hpl:SlE encS 2 χ (.slice pl (placesA d qs.length).length kp) (placesA d qs.length):=hO.at
 refine AS (ρ:=sng bw _) takeZ ?_;refine AS (ρ:=sng bm _) takeZ ?_;refine AS (ρ:=χ) takeZ ?_
 have w0:rdc (sng bw (.cells #[.slice pq qs.length kq,.slice pc cs.length kc,.slice pb bs.length kb,.slice ph hs.length kh,int d.s,int d.d,int d.v,int d.r,int d.e,.slice pl (placesA d qs.length).length kp,.map (some bm)] 134 (0,0))) bw 0 = some (.slice pq qs.length kq):=by rw [rdc_sng]; rfl
 have w1:rdc (sng bw (.cells #[.slice pq qs.length kq,.slice pc cs.length kc,.slice pb bs.length kb,.slice ph hs.length kh,int d.s,int d.d,int d.v,int d.r,int d.e,.slice pl (placesA d qs.length).length kp,.map (some bm)] 134 (0,0))) bw 1 = some (.slice pc cs.length kc):=by rw [rdc_sng]; rfl
 have w2:rdc (sng bw (.cells #[.slice pq qs.length kq,.slice pc cs.length kc,.slice pb bs.length kb,.slice ph hs.length kh,int d.s,int d.d,int d.v,int d.r,int d.e,.slice pl (placesA d qs.length).length kp,.map (some bm)] 134 (0,0))) bw 2 = some (.slice pb bs.length kb):=by rw [rdc_sng]; rfl
 have w3:rdc (sng bw (.cells #[.slice pq qs.length kq,.slice pc cs.length kc,.slice pb bs.length kb,.slice ph hs.length kh,int d.s,int d.d,int d.v,int d.r,int d.e,.slice pl (placesA d qs.length).length kp,.map (some bm)] 134 (0,0))) bw 3 = some (.slice ph hs.length kh):=by rw [rdc_sng]; rfl
 have w4:rdc (sng bw (.cells #[.slice pq qs.length kq,.slice pc cs.length kc,.slice pb bs.length kb,.slice ph hs.length kh,int d.s,int d.d,int d.v,int d.r,int d.e,.slice pl (placesA d qs.length).length kp,.map (some bm)] 134 (0,0))) bw 4 = some (int d.s):=by rw [rdc_sng]; rfl
 have w5:rdc (sng bw (.cells #[.slice pq qs.length kq,.slice pc cs.length kc,.slice pb bs.length kb,.slice ph hs.length kh,int d.s,int d.d,int d.v,int d.r,int d.e,.slice pl (placesA d qs.length).length kp,.map (some bm)] 134 (0,0))) bw 5 = some (int d.d):=by rw [rdc_sng]; rfl
 have w6:rdc (sng bw (.cells #[.slice pq qs.length kq,.slice pc cs.length kc,.slice pb bs.length kb,.slice ph hs.length kh,int d.s,int d.d,int d.v,int d.r,int d.e,.slice pl (placesA d qs.length).length kp,.map (some bm)] 134 (0,0))) bw 6 = some (int d.v):=by rw [rdc_sng]; rfl
 have w7:rdc (sng bw (.cells #[.slice pq qs.length kq,.slice pc cs.length kc,.slice pb bs.length kb,.slice ph hs.length kh,int d.s,int d.d,int d.v,int d.r,int d.e,.slice pl (placesA d qs.length).length kp,.map (some bm)] 134 (0,0))) bw 7 = some (int d.r):=by rw [rdc_sng]; rfl
 have w8:rdc (sng bw (.cells #[.slice pq qs.length kq,.slice pc cs.length kc,.slice pb bs.length kb,.slice ph hs.length kh,int d.s,int d.d,int d.v,int d.r,int d.e,.slice pl (placesA d qs.length).length kp,.map (some bm)] 134 (0,0))) bw 8 = some (int d.e):=by rw [rdc_sng]; rfl
 have w9:rdc (sng bw (.cells #[.slice pq qs.length kq,.slice pc cs.length kc,.slice pb bs.length kb,.slice ph hs.length kh,int d.s,int d.d,int d.v,int d.r,int d.e,.slice pl (placesA d qs.length).length kp,.map (some bm)] 134 (0,0))) bw 9 = some (.slice pl (placesA d qs.length).length kp):=by rw [rdc_sng]; rfl
 have w10:rdc (sng bw (.cells #[.slice pq qs.length kq,.slice pc cs.length kc,.slice pb bs.length kb,.slice ph hs.length kh,int d.s,int d.d,int d.v,int d.r,int d.e,.slice pl (placesA d qs.length).length kp,.map (some bm)] 134 (0,0))) bw 10 = some (.map (some bm)):=by rw [rdc_sng]; rfl
 have hg:=graph_spec hT bw bm kp pl χ M d h h0 hpl hM
 have hEl:=ea_len qs cs bs hs d h
 have hAl:(arcsG qs cs bs hs d).length = (arcsE qs cs bs hs d).length:=by unfold arcsG; rw [List.length_map]
 refine Ac ?_;refine Acc ?_;refine Aad ?_;refine BZ hg rfl rfl rdZ rfl rfl ?_;rintro _ σg ⟨ug,rfl,hOg⟩
 have hAt:ArcsAt σg ug (arcsG qs cs bs hs d):=hOg.at
 obtain ⟨pg,kg,rfl⟩:=hOg.form
 refine AS (ρ:=σg) takeZ ?_;refine AW ?_; rintro _ _ ⟨b,rfl,rfl⟩;refine AV ?_; rintro _ _ ⟨rfl,rfl⟩;refine Aak ?_;refine Ace ?_;refine AB ?_
 revert b; intro bg
 refine AS (ρ:=sng bg _) takeZ ?_
 have gg0:rdc (sng bg (.cells #[int (vsN qs d),.slice pg (arcsG qs cs bs hs d).length kg,int (vtx d d.s d.r),int (vtx d d.d d.e)] 69 (0,0))) bg 0 = some (int (vsN qs d)):=by rw [rdc_sng]; rfl
 have gg1:rdc (sng bg (.cells #[int (vsN qs d),.slice pg (arcsG qs cs bs hs d).length kg,int (vtx d d.s d.r),int (vtx d d.d d.e)] 69 (0,0))) bg 1 = some (.slice pg (arcsG qs cs bs hs d).length kg):=by rw [rdc_sng]; rfl
 have gg2:rdc (sng bg (.cells #[int (vsN qs d),.slice pg (arcsG qs cs bs hs d).length kg,int (vtx d d.s d.r),int (vtx d d.d d.e)] 69 (0,0))) bg 2 = some (int (vtx d d.s d.r)):=by rw [rdc_sng]; rfl
 have gg3:rdc (sng bg (.cells #[int (vsN qs d),.slice pg (arcsG qs cs bs hs d).length kg,int (vtx d d.s d.r),int (vtx d d.d d.e)] 69 (0,0))) bg 3 = some (int (vtx d d.d d.e)):=by rw [rdc_sng]; rfl
 have hcap:=flowCapacity_spec σg ω _ _ (vsN qs d) (arcsG qs cs bs hs d) side hAt hu (by omega) (by omega)
 skip
 refine A3 hcap rfl rfl rdZ rfl rfl ?_;rintro _ rfl;rw [← hEv]
 generalize (Go.Flow.capacitySpec (vsN qs d) (arcsG qs cs bs hs d) side).1 = vv
 by_cases hz:sidesE qs cs bs hs d side = 0
 rotate_left
 ·rw [if_neg hz]
  refine Ac0 ?_;refine Acm ?_;refine Adu ?_;exact AI (res2 rfl rfl rfl) rsubZ selZ ⟨[],_,emp,emp,rfl,rfl,rfl,hnil⟩
 have hin:=sidesE_in hv hz
 rw [hz,if_pos rfl]
 have hplen:(((placesA d qs.length).length:Nat):Int) = vsN qs d:=placesA_len (d:=d) (by omega) qs.length
 obtain ⟨_,_,ep,hrp⟩:=SlE.val (enc:=encS) encS_len hpl
 simp only [Value.slice.injEq] at ep
 obtain ⟨rfl,_,rfl⟩:=ep
 refine Ac0 ?_;refine Abc ?_;refine Ady ?_;refine Aac ?_;refine AX ?_;refine F4 ?_; rintro _ _ ⟨b,rfl,rfl⟩;refine Aab ?_;refine Ab8 ?_
 revert b; intro B
 rw [rowsQ_rep]
 refine BC [3,8,13,44,45] (X:=Nat × List Sq × PH) (0,List.replicate qs.length ((none,0),[]),emp) (fun x=>x.1 ≤ side.length ∧ cuL x.2.1 = sidesC d qs.length (side.take x.1) ∧ ∀ z ∈ x.2.1,SpAt x.2.2 (.slice z.1.1 z.2.length z.1.2) z.2 ∧ z.2.length ≤ 1000) (fun x=>[(46,int x.1)]) (fun x=>[sng B (.cells (rowsQ x.2.1).toArray 91 (0,0)),x.2.2]) (fun x=>side.length - x.1) pickZ ⟨by dsimp only; omega,?_,fun z hz=>?_⟩ covZ selZ ?_
 ·dsimp only
  rw [List.take_zero,sidesC_nil];exact List.map_replicate
 ·obtain ⟨_,rfl⟩:=List.mem_replicate.1 hz
  exact ⟨⟨rfl,.inl ⟨rfl,_,_,rfl⟩⟩,by simp⟩
 rintro ⟨k,L,κ⟩ ⟨hk,hL,hS⟩
 dsimp only at hk hL hS ⊢
 have hLl:L.length = qs.length:=by
  have:=congrArg List.length hL
  rwa [List.length_map,sidesC_len] at this
 by_cases hlt:k < side.length
 rotate_left
 ·have hke:k = side.length:=by omega
  subst hke;rw [List.take_length] at hL;refine Abt ?_;refine Adu ?_
  refine AI (res2 rfl rfl rfl) rsubZ selZ ⟨L,.slice (some ⟨B,0,none⟩) qs.length qs.length,_,κ,rfl,rfl,hL,?_,fun z hz=>⟨(hS z hz).1,by have:=(hS z hz).2; omega⟩⟩
  have:=slE_sng (enc:=encQ) encQ_len (b:=B) (l:=L) (t:=91) (fr:=(0,0)) (c:=qs.length)
  unfold elems at this;rw [rowsQ_flat,hLl] at this;exact this
 have hx:=List.getElem?_eq_getElem hlt
 have hvi:=hin _ (List.getElem_mem hlt)
 obtain ⟨n,t,hn,ht1,ht2,hkv,hkn⟩:=place_of (d:=d) (by omega) (k:=side[k].toNat) (N:=qs.length) (by rw [Int.toNat_of_nonneg hvi.1]; exact hvi.2)
 rw [Int.toNat_of_nonneg hvi.1] at hkv
 have hp:=placesA_get (d:=d) (by omega) ht1 ht2 hn
 rw [← hkv] at hp
 have hdv:=vtx_div (d:=d) (n:=n) (t:=t) ht1 ht2
 have hdm2:=vtx_mod (d:=d) (n:=n) (t:=t) ht1 ht2
 rw [← hkv] at hdv hdm2
 have hnx:=sidesC_next d qs.length hlt hdv
 rw [hdm2,show d.r + (t - d.r) = t by omega,← sideI_one (sideI_ok d (side.take k) n).1] at hnx
 obtain ⟨b6,o6,epl,hRd6,y0,y1⟩:=spRow hrp hp
 obtain ⟨bo,oo,epf,gf⟩:=hrf.int hx
 have hLn:=List.getElem?_eq_getElem (show n < L.length by omega)
 have hSn:=hS _ (List.getElem_mem (show n < L.length by omega))
 have hLe:L[n].2 = sideI d (side.take k) n:=by
  have e1:(cuL L)[n]? = some L[n].2:=by rw [List.getElem?_map,hLn]; rfl
  rw [hL] at e1;unfold sidesC at e1;rw [List.getElem?_map,List.getElem?_range hn] at e1;exact (Option.some.inj e1).symm
 have hnorm:=(sideI_ok d (side.take k) n).1
 have hslen:=sideI_small h (side.take k) n
 have hchk:=sideI_chk h (side.take k) n
 rw [← hLe] at hnorm hslen hchk hnx
 have gB:rdc (sng B (.cells (rowsQ L).toArray 91 (0,0))) B n = some (.slice L[n].1.1 L[n].2.length L[n].1.2):=by
  rw [rdc_sng]
  simp [rowsQ,hLn]
 generalize hzz:L[n] = z at hLn hSn hLe hnorm hslen hchk hnx gB
 obtain ⟨⟨pz,kz⟩,lz⟩:=z
 dsimp only at hSn hLe hnorm hslen hchk hnx gB
 have hc1:chkI [(t,t + 1)] = 0:=chkI_of (by simp) (NormI.nil.cons (by dsimp only; omega) (by simp)) (fun x hx=>by
  obtain rfl:=List.mem_singleton.1 hx
  unfold okSp
  dsimp only
  omega)
 have hun:=fun b8=>exUnion_spec κ (sng b8 (.cells #[int t,int (t + 1)] 93 (0,0))) (.slice pz lz.length kz) (.slice (some ⟨b8,0,none⟩) 1 1) lz [(t,t + 1)] hSn.1 (slE_sng encS_len) hchk hc1 (by simp only [List.length_singleton]; omega)
 have hcl:=(combI_ok (f:=fun x y=>x || y) rfl hnorm (b:=[(t,t + 1)]) (NormI.nil.cons (by dsimp only; omega) (by simp))).2.2
 simp only [List.length_singleton] at hcl
 obtain ⟨v,hvv⟩:=Int.eq_ofNat_of_zero_le hvi.1
 rw [hvv] at gf y0 y1 hRd6;rw [Int.toNat_natCast] at y0 y1 hRd6
 have hvl:(v:Int) < (((placesA d qs.length).length:Nat):Int):=by omega
 subst epl;subst epf;refine Adh ?_;refine Ab ?_;refine Adr ?_;refine AB ?_;refine Abf ?_;refine AW ?_; rintro _ _ ⟨b,rfl,rfl⟩;refine AV ?_; rintro _ _ ⟨rfl,rfl⟩;refine AE ?_
 revert b; intro b16
 refine A5 (.q 0 (.q 1 (.q 2 (.q 3 (.q 4 (.q 5 (.q 6 (.q 7 (.q 8 (.q 9 (.q 10 (.q 11 (.q 12 (.q 13 (.l 14 .e (.l 15 .e (.q 16 (.q 17 (.p 18 (.q 19 (.l 20 .b .nil))))))))))))))))))))) [] rfl (by kernel_rfl) Sel.nil ?_
 refine Acn ?_;refine Acn ?_;refine Adn ?_;refine Ac8 ?_;refine CY ?_;refine CP ?_;refine B0 ?_; rintro _ _ ⟨b,rfl,rfl⟩
 revert b; intro b8
 refine CO (DL rfl (hun b8) rfl rfl rdZ rfl rfl ?_);rintro _ _ ⟨σi,⟨ui,rfl,hOi⟩,rfl⟩
 obtain ⟨pi,ci,rfl⟩:=hOi.form
 refine AR ?_;refine DN ?_;refine E6 ?_;refine CB ?_;refine CO ?_;refine' FV rfl _ rfl rfl _ _; rotate_left
 ·(apply C9; exact rfl; exact rfl; exact rfl; exact rfl; exact takeZ; (simp [rowsQ_len]; omega))
 ·rintro _ _ ⟨_,rfl⟩ w hw; exact hw.sel Sel.nil
 rintro _ _ ⟨rfl,rfl⟩;refine A6 ?_;refine Aa4 ?_
 show JK _ _ _ (sng B (.cells ((rowsQ L).toArray.setIfInBounds n (Value.slice pi (combI (fun x y=>x || y) lz [(t,t + 1)]).length ci)) 91 (0,0)) :: _) _ _
 have hset:=rowsQ_set L n ((pi,ci),combI (fun x y=>x || y) lz [(t,t + 1)])
 dsimp only at hset
 rw [hset]
 refine DU (ρ:=σi) (σ:=κ) takeZ takeZ (fun χ1 s1 s2=>?_)
 refine AZ (k + 1,L.set n ((pi,ci),combI (fun x y=>x || y) lz [(t,t + 1)]),χ1) ⟨by dsimp only; omega,?_,fun z hz=>?_⟩ (by dsimp only; omega) covZ selZ
 ·dsimp only
  rw [hnx,← hL];exact List.map_set
 ·rcases List.mem_or_eq_of_mem_set hz with hz | rfl
  ·exact ⟨(hS z hz).1.mono s2,(hS z hz).2⟩
  ·exact ⟨SlE.mono (show SpAt σi _ _ from hOi.at) s1,by dsimp only; omega⟩
end Go.Proofs.YtphehihohghfoaaGreat
/- Sizes, demands, equal cuts. -/
namespace Go.Proofs.YtphehihohghfoaaGreat
open Go.Eng Go.Step
set_option maxRecDepth 100000
set_option maxHeartbeats 4000000

theorem greatPlan_spec (pq pc:Option Addr) (kq kc nq nc:Nat):Ans Tryz.prog (fv 87) [.agg #[.slice pq nq kq,.slice pc nc kc]] [] (fun r=>r = .bool (decide (6 < nq ∨ 10 < nc))):=by
 refine spec_in (cap:=[]) Tryz.func87 rfl rfl Tryz.ntmps87 rfl envZ (fun N β=>?_)
 refine Aa ?_;refine BI (BK rfl) rfl rfl rfl ?_;rintro _ _ ⟨b1,rfl,rfl⟩;refine AS (ρ:=sng b1 _) takeZ ?_
 have c:=rdB b1 25 [.slice pq nq kq,.slice pc nc kc]
 have c0:=rdC c 0
 have c1:=rdC c 1
 by_cases h1:6 < nq
 ·rw [decide_eq_true (.inl h1)]
  refine Acg ?_;refine CI ?_;refine Aba ?_;refine Ab2 ?_;exact AI (res1 rfl rfl) rsubZ selZ ⟨rfl,rfl⟩
 by_cases h2:10 < nc
 ·rw [decide_eq_true (.inr h2)]
  refine Acg ?_;refine BO ?_;refine Aeb ?_;refine CI ?_;refine Abx ?_;exact AI (res1 rfl rfl) rsubZ selZ ⟨rfl,rfl⟩
 rw [decide_eq_false (by omega)]
 refine Acg ?_;refine BO ?_;refine Aeb ?_;refine BO ?_;refine Abx ?_;exact AI (res1 rfl rfl) rsubZ selZ ⟨rfl,rfl⟩
set_option maxHeartbeats 16000000 in
theorem great29_spec (pq pc pb ph:Option Addr) (kq kc kb kh nq nc nb nh:Nat):Ans Tryz.prog (fv 50) [.agg #[.slice pq nq kq,.slice pc nc kc,.slice pb nb kb,.slice ph nh kh]] [] (fun r=>r = .bool (decide (6 < nq ∨ 10 < nc ∨ 30 < nb ∨ 30 < nh))):=by
 refine spec_in (cap:=[]) Tryz.func50 rfl rfl Tryz.ntmps50 rfl envZ (fun N β=>?_)
 refine Aa ?_;refine BI (BK rfl) rfl rfl rfl ?_;rintro _ _ ⟨b1,rfl,rfl⟩;refine AS (ρ:=sng b1 _) takeZ ?_
 have c:=rdB b1 29 [.slice pq nq kq,.slice pc nc kc,.slice pb nb kb,.slice ph nh kh]
 have c0:=rdC c 0
 have c1:=rdC c 1
 have c2:=rdC c 2
 have c3:=rdC c 3
 have ctp:RdP (sng b1 (.cells #[.slice pq nq kq,.slice pc nc kc,.slice pb nb kb,.slice ph nh kh] 29 (0,0))) b1 0 [.slice pq nq kq,.slice pc nc kc]:=rdP_sng (xs:=[.slice pq nq kq,.slice pc nc kc,.slice pb nb kb,.slice ph nh kh]) rfl
 refine Aab ?_;refine Ady ?_;refine AT ?_;refine A3 (greatPlan_spec pq pc kq kc nq nc) rfl rfl rdZ rfl rfl ?_;rintro _ rfl
 by_cases h1:6 < nq ∨ 10 < nc
 ·rw [decide_eq_true h1,decide_eq_true (by omega)]
  refine Acq ?_;refine Aba ?_;refine Ab2 ?_;exact AI (res1 rfl rfl) rsubZ selZ ⟨rfl,rfl⟩
 rw [decide_eq_false h1]
 by_cases h2:30 < nb
 ·rw [decide_eq_true (by omega)]
  refine Aeb ?_;refine CI ?_;refine AJ ?_;refine Aba ?_;refine Ab2 ?_;exact AI (res1 rfl rfl) rsubZ selZ ⟨rfl,rfl⟩
 by_cases h3:30 < nh
 ·rw [decide_eq_true (by omega)]
  refine Aeb ?_;refine Ado ?_;refine AX ?_;refine CI ?_;refine Abx ?_;exact AI (res1 rfl rfl) rsubZ selZ ⟨rfl,rfl⟩
 rw [decide_eq_false (by omega)]
 refine Aeb ?_;refine Ado ?_;refine AX ?_;refine BO ?_;refine Abx ?_;exact AI (res1 rfl rfl) rsubZ selZ ⟨rfl,rfl⟩
set_option maxHeartbeats 16000000 in
theorem great53_spec (pq pc pb ph:Option Addr) (kq kc kb kh nq nc nb nh:Nat) (d:Dm):Ans Tryz.prog (fv 24) [.agg #[.slice pq nq kq,.slice pc nc kc,.slice pb nb kb,.slice ph nh kh],.agg #[int d.s,int d.d,int d.v,int d.r,int d.e]] [] (fun r=>∃ b,r = .bool b):=by
 refine spec_in (cap:=[]) Tryz.func24 rfl rfl Tryz.ntmps24 rfl envZ (fun N β=>?_)
 refine Aa ?_;refine BI (BK rfl) rfl rfl rfl ?_;rintro _ _ ⟨b1,rfl,rfl⟩;refine AS (ρ:=sng b1 _) takeZ ?_
 have c:=rdB b1 29 [.slice pq nq kq,.slice pc nc kc,.slice pb nb kb,.slice ph nh kh]
 have c0:=rdC c 0
 have c1:=rdC c 1
 have c2:=rdC c 2
 have c3:=rdC c 3
 refine BI (BK rfl) rfl rfl rfl ?_;rintro _ _ ⟨b2,rfl,rfl⟩;refine AS (ρ:=sng b2 _) takeZ ?_
 have cd:=rdB b2 31 [int d.s,int d.d,int d.v,int d.r,int d.e]
 have cd0:=rdC cd 0
 have cd1:=rdC cd 1
 have cd2:=rdC cd 2
 have cd3:=rdC cd 3
 have cd4:=rdC cd 4
 refine Aab ?_;refine Abo ?_;refine A3 (great29_spec pq pc pb ph kq kc kb kh nq nc nb nh) rfl rfl rdZ rfl rfl ?_;rintro _ rfl
 obtain ⟨w1,hw1⟩:∃ w1,w1 = IntKind.i64.wrap (d.r + 24):=⟨_,rfl⟩
 obtain ⟨w2,hw2⟩:∃ w2,w2 = IntKind.i64.wrap (d.r + 100):=⟨_,rfl⟩
 cases decide (6 < nq ∨ 10 < nc ∨ 30 < nb ∨ 30 < nh) with
 | true =>
  refine Ack ?_;refine Aaa ?_;refine Aaa ?_;refine Aaa ?_;refine Aaa ?_;refine Ab2 ?_;exact AI (res1 rfl rfl) rsubZ selZ ⟨rfl,_,rfl⟩
 | false =>
 by_cases h2:w1 < d.e
 ·by_cases h3:d.e ≤ w2
  ·refine AB ?_
   refine Ad6 ?_
   focus ((refine CE (EN rfl rfl) rfl rfl rfl ?_; first | rw [← hw1] | rw [← hw2]))
   refine CI ?_;refine Aa9 ?_
   focus ((refine CE (EN rfl rfl) rfl rfl rfl ?_; first | rw [← hw1] | rw [← hw2]))
   refine CL ?_;refine AL ?_;refine Abx ?_;exact AI (res1 rfl rfl) rsubZ selZ ⟨rfl,_,rfl⟩
  ·refine AB ?_
   refine Ad6 ?_
   focus ((refine CE (EN rfl rfl) rfl rfl rfl ?_; first | rw [← hw1] | rw [← hw2]))
   refine CI ?_;refine Aa9 ?_
   focus ((refine CE (EN rfl rfl) rfl rfl rfl ?_; first | rw [← hw1] | rw [← hw2]))
   refine CJ ?_;refine AL ?_;refine Abx ?_;exact AI (res1 rfl rfl) rsubZ selZ ⟨rfl,_,rfl⟩
 ·refine AB ?_
  refine Ad6 ?_
  focus ((refine CE (EN rfl rfl) rfl rfl rfl ?_; first | rw [← hw1] | rw [← hw2]))
  refine BO ?_;refine Ack ?_;refine AJ ?_;refine Abx ?_;exact AI (res1 rfl rfl) rsubZ selZ ⟨rfl,_,rfl⟩
def okDmB (nq:Nat) (d:Dm):Bool:=decide (okDm nq d)
set_option maxHeartbeats 32000000 in
theorem demand53_spec (pq pc:Option Addr) (kq kc nq nc:Nat) (d:Dm):Ans Tryz.prog (fv 53) [.agg #[.slice pq nq kq,.slice pc nc kc],.agg #[int d.s,int d.d,int d.v,int d.r,int d.e]] [] (fun r=>r = .bool (okDmB nq d)):=by
 refine spec_in (cap:=[]) Tryz.func53 rfl rfl Tryz.ntmps53 rfl envZ (fun N β=>?_)
 refine Aa ?_;refine BI (BK rfl) rfl rfl rfl ?_;rintro _ _ ⟨b1,rfl,rfl⟩;refine AS (ρ:=sng b1 _) takeZ ?_
 have c:=rdB b1 25 [.slice pq nq kq,.slice pc nc kc]
 have c0:=rdC c 0
 have c1:=rdC c 1
 refine BI (BK rfl) rfl rfl rfl ?_;rintro _ _ ⟨b2,rfl,rfl⟩;refine AS (ρ:=sng b2 _) takeZ ?_
 have cd:=rdB b2 31 [int d.s,int d.d,int d.v,int d.r,int d.e]
 have cd0:=rdC cd 0
 have cd1:=rdC cd 1
 have cd2:=rdC cd 2
 have cd3:=rdC cd 3
 have cd4:=rdC cd 4
 by_cases c1:d.s < 0
 ·rw [show okDmB nq d = false from decide_eq_false (fun h=>by unfold okDm at h; omega)]
  refine Ada ?_;refine Aao ?_;refine A9 ?_;refine Acq ?_;refine Abq ?_;refine Acq ?_;refine Ab0 ?_;refine AL ?_;refine Adk ?_;exact AI (res1 rfl rfl) rsubZ selZ ⟨rfl,rfl⟩
 by_cases c182:(nq:Int) ≤ d.s
 ·rw [show okDmB nq d = false from decide_eq_false (fun h=>by unfold okDm at h; omega)]
  refine Adl ?_;refine AB ?_;refine CC ?_;refine AJ ?_;refine Abq ?_;refine Acq ?_;refine Ab0 ?_;refine AL ?_;refine Adk ?_;exact AI (res1 rfl rfl) rsubZ selZ ⟨rfl,rfl⟩
 by_cases c374:d.d < 0
 ·rw [show okDmB nq d = false from decide_eq_false (fun h=>by unfold okDm at h; omega)]
  refine Adv ?_;refine A9 ?_;refine AJ ?_;refine Acq ?_;refine Ab0 ?_;refine AL ?_;refine Adk ?_;exact AI (res1 rfl rfl) rsubZ selZ ⟨rfl,rfl⟩
 by_cases c557:(nq:Int) ≤ d.d
 ·rw [show okDmB nq d = false from decide_eq_false (fun h=>by unfold okDm at h; omega)]
  refine Adv ?_;refine Abd ?_;refine AB ?_;refine CC ?_;refine AJ ?_;refine Ab0 ?_;refine AL ?_;refine Adk ?_;exact AI (res1 rfl rfl) rsubZ selZ ⟨rfl,rfl⟩
 by_cases c749:d.s = d.d
 ·rw [show okDmB nq d = false from decide_eq_false (fun h=>by unfold okDm at h; omega)]
  refine Adv ?_;refine Acp ?_;refine CK ?_;refine AJ ?_;refine Adk ?_;exact AI (res1 rfl rfl) rsubZ selZ ⟨rfl,rfl⟩
 by_cases c934:d.v < 1
 ·rw [show okDmB nq d = false from decide_eq_false (fun h=>by unfold okDm at h; omega)]
  refine Adv ?_;refine Ac6 ?_;refine Aap ?_;refine A9 ?_;refine AJ ?_;refine Acw ?_;exact AI (res1 rfl rfl) rsubZ selZ ⟨rfl,rfl⟩
 by_cases c1117:1099511627776 < d.v
 ·rw [show okDmB nq d = false from decide_eq_false (fun h=>by unfold okDm at h; omega)]
  refine Adv ?_;refine Ac6 ?_;refine Aap ?_;refine Abd ?_;refine CI ?_;refine Ac9 ?_;exact AI (res1 rfl rfl) rsubZ selZ ⟨rfl,rfl⟩
 by_cases c1313:d.r < 0
 ·rw [show okDmB nq d = false from decide_eq_false (fun h=>by unfold okDm at h; omega)]
  refine Adv ?_;refine Ac6 ?_;refine Aap ?_;refine Ads ?_;refine Aao ?_;refine BJ ?_;refine Ab0 ?_;refine AJ ?_;refine Adq ?_;refine Ael ?_;exact AI (res1 rfl rfl) rsubZ selZ ⟨rfl,rfl⟩
 by_cases c1497:d.e ≤ d.r
 ·rw [show okDmB nq d = false from decide_eq_false (fun h=>by unfold okDm at h; omega)]
  refine Adv ?_;refine Ac6 ?_;refine Aap ?_;refine Ads ?_;refine Adg ?_;refine Aa9 ?_;refine AY ?_;refine AL ?_;refine Adq ?_;refine Ael ?_;exact AI (res1 rfl rfl) rsubZ selZ ⟨rfl,rfl⟩
 by_cases c1683:1099511627776 < d.e
 ·rw [show okDmB nq d = false from decide_eq_false (fun h=>by unfold okDm at h; omega)]
  refine Adv ?_;refine Ac6 ?_;refine Aap ?_;refine Ads ?_;refine Adg ?_;refine Aa9 ?_;refine A9 ?_;refine Acs ?_;refine CJ ?_;refine AL ?_;refine Ael ?_;exact AI (res1 rfl rfl) rsubZ selZ ⟨rfl,rfl⟩
 by_cases c1879:100 < d.e - d.r
 ·rw [show okDmB nq d = false from decide_eq_false (fun h=>by unfold okDm at h; omega)]
  refine Adv ?_;refine Ac6 ?_;refine Aap ?_;refine Ads ?_;refine Adg ?_;refine Aa9 ?_;refine A9 ?_;refine Acs ?_;refine CL ?_;refine Ac5 ?_;refine CZ ?_;refine CJ ?_;refine Ab2 ?_;exact AI (res1 rfl rfl) rsubZ selZ ⟨rfl,rfl⟩
 rw [show okDmB nq d = true from decide_eq_true (by unfold okDm; omega)]
 refine Adv ?_;refine Ac6 ?_;refine Aap ?_;refine Ads ?_;refine Adg ?_;refine Aa9 ?_;refine A9 ?_;refine Acs ?_;refine CL ?_;refine Ac5 ?_;refine CZ ?_;refine CL ?_;refine Ab2 ?_;exact AI (res1 rfl rfl) rsubZ selZ ⟨rfl,rfl⟩
end Go.Proofs.YtphehihohghfoaaGreat
