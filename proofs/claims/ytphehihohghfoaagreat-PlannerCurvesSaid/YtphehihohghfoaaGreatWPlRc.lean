/- Texts of this proof, one after the other; no conditions. -/
import Derived.Laws.Externs
import Derived.Test.YtphehihohghfoaaGreatWB10
import Derived.Test.YtphehihohghfoaaGreatWB3
import Derived.Test.YtphehihohghfoaaGreatWB2
import Derived.Test.YtphehihohghfoaaGreatWB9
import Derived.Test.YtphehihohghfoaaGreatWB7
import Derived.Test.YtphehihohghfoaaGreatWB4
import Derived.Test.YtphehihohghfoaaGreatWB6
import Derived.Test.YtphehihohghfoaaGreatWB5
set_option linter.all false
/- Where a node can store more, of the reference. -/
namespace Go.Proofs.YtphehihohghfoaaGreat
open Go.Eng Go.Step
set_option maxRecDepth 100000
set_option maxHeartbeats 4000000

end Go.Proofs.YtphehihohghfoaaGreat
/- Free spans, of the reference; lists compared. -/
namespace Go.Proofs.YtphehihohghfoaaGreat
open Go.Eng Go.Step
set_option maxRecDepth 100000
set_option maxHeartbeats 4000000

theorem equalV_spec (ρ τ:PH) (v w:Value) (l m:List Lv) (hv:LvAt ρ v l) (hw:LvAt τ w m) (hl:l.length ≤ 9223372036854775807) :
  Ans Tryz.prog (fv 16) [v,w] [ρ,τ] (fun r=>r = .bool (decide (l = m))):=by
 obtain ⟨q,c,rfl,hr⟩:=hv.val encV_len
 obtain ⟨q',c',rfl,hr'⟩:=hw.val encV_len
 refine spec_in (cap:=[]) Tryz.func16 rfl rfl Tryz.ntmps16 rfl envZ (fun N β=>?_)
 by_cases hlen:l.length = m.length
 rotate_left
 ·refine AC ?_
  refine AA ?_;refine Aab ?_;refine Acr ?_;refine AB ?_;refine AX ?_;refine CG ?_;refine Aaz ?_
  exact AI (res1 rfl rfl) rsubZ selZ ⟨rfl,by rw [decide_eq_false (fun h=>hlen (by rw [h]))]⟩
 refine Aaj ?_;refine Acr ?_;refine AB ?_;refine AX ?_;refine Abc ?_;refine Ab8 ?_
 refine BC [0,1,12] (0:Nat) (fun k=>k ≤ l.length ∧ l.take k = m.take k) (fun k=>[(13,int k)]) (fun _=>[]) (fun k=>l.length - k) pickZ ⟨by omega,by simp⟩ covZ selZ ?_
 rintro k ⟨hk,hI⟩
 by_cases hlt:k < l.length
 ·have hx:=List.getElem?_eq_getElem hlt
  have hx':=List.getElem?_eq_getElem (show k < m.length by omega)
  obtain ⟨b1,o1,rfl,hRd1,_⟩:=lvRow hr hx
  obtain ⟨b2,o2,rfl,hRd2,_⟩:=lvRow hr' hx'
  refine Abz ?_;refine Abm ?_
  refine A5 (.q 0 (.q 1 (.q 2 (.q 3 (.q 4 (.q 5 (.q 6 (.q 7 (.q 8 .nil))))))))) [] rfl (by kernel_rfl) Sel.nil ?_
  refine Ad ?_;refine BR ?_;refine Ad ?_;refine BR ?_
  focus ((refine' CT rfl _ rfl rfl rfl rfl _; rotate_left; (apply q_neS [l[k].a,l[k].v] [m[k].a,m[k].v] (n:=2); exact rfl; exact rfl; kernel_rfl; kernel_rfl; kernel_rfl; exact rfl; exact rfl)))
  refine A6 ?_
  by_cases he:l[k] = m[k]
  ·rw [he]
   rw [show (!decide ([m[k].a,m[k].v] = [m[k].a,m[k].v])) = false by simp]
   skip
   refine Aaf ?_;refine Aa4 ?_
   refine AZ (k + 1) ⟨by omega,?_⟩ (by omega) covZ selZ
   rw [List.take_succ_eq_append_getElem hlt,List.take_succ_eq_append_getElem (show k < m.length by omega),hI,he]
  ·have hne:¬ ([l[k].a,l[k].v] = [m[k].a,m[k].v]):=fun h=>he (by
    simp only [List.cons.injEq,and_true] at h
    generalize l[k] = x at *
    generalize m[k] = y at *
    obtain ⟨x1,x2⟩:=x
    obtain ⟨y1,y2⟩:=y
    simp only at h
    rw [h.1,h.2])
   rw [show (!decide ([l[k].a,l[k].v] = [m[k].a,m[k].v])) = true by simp only [decide_eq_false hne,Bool.not_false]]
   skip
   refine AM rfl ?_;refine Aaj ?_
   exact AI (res1 rfl rfl) rsubZ selZ ⟨rfl,by rw [decide_eq_false (fun h=>he (by subst h; rfl))]⟩
 ·rw [List.take_of_length_le (by omega),List.take_of_length_le (by omega)] at hI
  refine Abt ?_;refine Aaj ?_
  exact AI (res1 rfl rfl) rsubZ selZ ⟨rfl,by rw [decide_eq_true hI]⟩
end Go.Proofs.YtphehihohghfoaaGreat
/- The planner's example. No program in sight. No conditions. -/
namespace Go.Step
open Go.Flow (Flw fval inCap)
def e9:List Int:=[9,1,9]
def eD5:Dm:=⟨0,2,5,0,6⟩
theorem e9Valid:validT e9 eC [] [] eD = true:=by decide +kernel
theorem e9Valid5:validT e9 eC [] [] eD5 = true:=by decide +kernel
theorem e9Arcs:arcsE e9 eC [] [] eD = eA:=by decide +kernel
theorem e9Arcs5:arcsE e9 eC [] [] eD5 = eA:=by decide +kernel
theorem e9G:arcsG e9 eC [] [] eD = arcsG eQ eC [] [] eD:=by rw [eG]; unfold arcsG; rw [e9Arcs]
theorem e9G5:arcsG e9 eC [] [] eD5 = arcsG eQ eC [] [] eD:=by rw [eG]; unfold arcsG; rw [e9Arcs5]
theorem e9Max (hok:VOk eQ eC [] [] eD) {F:List Int} {m e:Int} (hm:MaxN e9 eC [] [] eD F m e):m = 4:=by
  have h:MaxN eQ eC [] [] eD F m e:=by
    unfold MaxN at hm ⊢;rw [e9G] at hm;exact hm
  exact (eMax hok h).2.1
theorem e9Max5 (hok:VOk eQ eC [] [] eD) {F:List Int} {m e:Int} (hm:MaxN e9 eC [] [] eD5 F m e):m = 4:=by
  have h:MaxN eQ eC [] [] eD F m e:=by
    unfold MaxN at hm ⊢;rw [e9G5] at hm;exact hm
  exact (eMax hok h).2.1
def eL:List Sh:=[⟨0,0,1⟩,⟨0,1,3⟩,⟨1,3,3⟩,⟨1,4,1⟩]
theorem eShipsL {F:List Int} (hf:Flw 21 (arcsG eQ eC [] [] eD) 0 20 F) (hv:fval 0 (arcsG eQ eC [] [] eD) F = 4):shipsF eA F = eL:=by
  rw [eG] at hf hv
  have hl:=hf.len
  have hc:=hf.cap
  have e0:=hf.bal 1 (by omega) (by omega) (by omega)
  have e7:=hf.bal 7 (by omega) (by omega) (by omega)
  have e8:=hf.bal 8 (by omega) (by omega) (by omega)
  have e9:=hf.bal 9 (by omega) (by omega) (by omega)
  have e10:=hf.bal 10 (by omega) (by omega) (by omega)
  have e11:=hf.bal 11 (by omega) (by omega) (by omega)
  have e12:=hf.bal 12 (by omega) (by omega) (by omega)
  have e13:=hf.bal 13 (by omega) (by omega) (by omega)
  have e2:=hf.bal 2 (by omega) (by omega) (by omega)
  have e3:=hf.bal 3 (by omega) (by omega) (by omega)
  have e4:=hf.bal 4 (by omega) (by omega) (by omega)
  have e5:=hf.bal 5 (by omega) (by omega) (by omega)
  have e6:=hf.bal 6 (by omega) (by omega) (by omega)
  clear hf
  match F,hl with
  | [a0,a1,a2,a3,a4,a5,a6,a7,a8,a9,a10,a11,a12,a13,a14,a15,a16,a17,a18,a19,a20,a21],_ =>
    simp [eA,fval] at hv e0 e7 e8 e9 e10 e11 e12 e13 e2 e3 e4 e5 e6
    simp [eA,inCap] at hc
    have h18:a18 = 1:=by omega
    have h19:a19 = 3:=by omega
    have h20:a20 = 3:=by omega
    have h21:a21 = 1:=by omega
    subst h18 h19 h20 h21
    simp [eA,shipsF,eL]
theorem e9Plan (hq:VOk eQ eC [] [] eD) (hok:VOk e9 eC [] [] eD) {acc:Bool} {vol:Int} {ss:List Sh} {c:Cu} (hp:PlanOK e9 eC [] [] eD acc vol ss c):acc = true ∧ vol = 4 ∧ ss = eL ∧ c = []:=by
  obtain ⟨F,m,hm,hp⟩:=hp
  have h4:=e9Max hq hm
  subst h4
  rcases hp with ⟨a1,_⟩ | ⟨a1,a2,a3,a4,ps,a5,a6⟩
  · exact absurd a1 (by decide)
  refine ⟨a2,a3,?_,a4⟩
  obtain ⟨N,S,T,hN,hS,hT,hf,hv,_⟩:=part_ok hok e9Valid hm a5 a1
  have n1 : N = 21 := by have : vsN e9 eD = 21 := by decide +kernel
                         omega
  have n2 : S = 0 := by have : vtx eD eD.s eD.r = 0 := eS
                        omega
  have n3 : T = 20 := by have : vtx eD eD.d eD.e = 20 := eT
                         omega
  subst n1 n2 n3;rw [e9G] at hf hv;rw [a6,e9Arcs];exact eShipsL hf hv
theorem e9Plan5 (hq:VOk eQ eC [] [] eD) {acc:Bool} {vol:Int} {ss:List Sh} {c:Cu} (hp:PlanOK e9 eC [] [] eD5 acc vol ss c):acc = false ∧ vol = 4 ∧ c.length = 3:=by
  obtain ⟨F,m,hm,hp⟩:=hp
  have h4:=e9Max5 hq hm
  subst h4
  rcases hp with ⟨a1,a2,a3,a4,side,k,_,a6⟩ | ⟨a1,_⟩
  · exact ⟨a2,a3,by rw [a6,sidesC_len]; rfl⟩
  · exact absurd a1 (by decide)
theorem max_val {qs:List Int} {cs:List Ct} {bs:List Bk} {hs:List Hd} {d:Dm} (h:VOk qs cs bs hs d) {F fl:List Int} {m e v:Int} {N S T:Nat} (hm:MaxN qs cs bs hs d F m e) (hN:vsN qs d = N) (hS:vtx d d.s d.r = S) (hT:vtx d d.d d.e = T) (hf:Flw N (arcsG qs cs bs hs d) S T fl) (hv:fval S (arcsG qs cs bs hs d) fl = v) {P:Int → Int → Bool} (h1:P d.s d.r = true) (h2:P d.d d.e = false) (hc:capB qs cs bs hs d P = v):m = v:=by
  obtain ⟨_,N',S',T',hN',hS',hT',hf',hv',P',p1,p2,p3⟩:=max_cut h hm
  have a:=flow_le_cap h hN' hS' hT' hf' h1 h2
  have b:=flow_le_cap h hN hS hT hf p1 p2
  omega
theorem e9Flow5:Flw 18 (arcsG e9 eC [] [] (atE eD 5)) 0 17 [3,0,0,0,0,0,0,0,0,0,0,0,0,0,0,0,3,3]:=by
  refine ⟨by decide +kernel,by decide +kernel,?_⟩
  have:∀ v:Fin 18,v.1 ≠ 0 → v.1 ≠ 17 → fval v.1 (arcsG e9 eC [] [] (atE eD 5)) [3,0,0,0,0,0,0,0,0,0,0,0,0,0,0,0,3,3] = 0:=by decide +kernel
  exact fun v hv h1 h2=>this ⟨v,hv⟩ h1 h2
theorem e9Curve (hq:VOk eQ eC [] [] eD) (hok:∀ j:Nat,j < 6 → VOk e9 eC [] [] (atE eD (eD.r + ((j + 1:Nat):Int)))) (hex:∀ j:Nat,j < 6 → ∃ F m,MaxN e9 eC [] [] (atE eD (eD.r + ((j + 1:Nat):Int))) F m 0):curveK e9 eC [] [] eD 6 = [⟨5,3⟩,⟨6,4⟩]:=by
  have hz:∀ j:Nat,j < 6 → capB e9 eC [] [] (atE eD (eD.r + ((j + 1:Nat):Int))) (fun n _=>decide (n ≠ 2)) = 0 → mostK e9 eC [] [] eD (j + 1) = 0:=fun j hj hc=>by
    obtain ⟨F,m,hm⟩:=hex j hj
    rw [mostK_eq hm]
    have h0:=max_nonneg (hok j hj) hm
    obtain ⟨_,N,S,T,hN,hS,hT,hf,hv,_⟩:=max_cut (hok j hj) hm
    have:=flow_le_cap (hok j hj) hN hS hT hf (P:=fun n _=>decide (n ≠ 2)) rfl rfl
    omega
  have m0:mostK e9 eC [] [] eD 0 = 0:=rfl
  have m1:=hz 0 (by omega) (by decide +kernel)
  have m2:=hz 1 (by omega) (by decide +kernel)
  have m3:=hz 2 (by omega) (by decide +kernel)
  have m4:=hz 3 (by omega) (by decide +kernel)
  have m5:mostK e9 eC [] [] eD 5 = 3:=by
    obtain ⟨F,m,hm⟩:=hex 4 (by omega)
    rw [show (5:Nat) = 4 + 1 from rfl,mostK_eq hm]
    exact max_val (hok 4 (by omega)) hm (N:=18) (S:=0) (T:=17) (by decide +kernel) (by decide +kernel) (by decide +kernel) e9Flow5 (by decide +kernel) (P:=fun n _=>decide (n ≠ 2)) rfl rfl (by decide +kernel)
  have m6:mostK e9 eC [] [] eD 6 = 4:=by
    obtain ⟨F,m,hm⟩:=hex 5 (by omega)
    rw [show (6:Nat) = 5 + 1 from rfl,mostK_eq hm]
    exact e9Max hq hm
  unfold curveK curveK curveK curveK curveK curveK curveK;simp only [m0,m1,m2,m3,m4,m5,m6]
  decide
end Go.Step
/- The example is awake. -/
namespace Go.Proofs.YtphehihohghfoaaGreat
open Go.Eng Go.Step
set_option maxRecDepth 100000
set_option maxHeartbeats 4000000

theorem equalX_spec (ρ τ:PH) (v w:Value) (l m:List Sh) (hv:ShAt ρ v l) (hw:ShAt τ w m) (hl:l.length ≤ 9223372036854775807) :
  Ans Tryz.prog (fv 26) [v,w] [ρ,τ] (fun r=>r = .bool (decide (l = m))):=by
 obtain ⟨q,c,rfl,hr⟩:=hv.val encX_len
 obtain ⟨q',c',rfl,hr'⟩:=hw.val encX_len
 refine spec_in (cap:=[]) Tryz.func26 rfl rfl Tryz.ntmps26 rfl envZ (fun N β=>?_)
 by_cases hlen:l.length = m.length
 rotate_left
 ·refine AC ?_
  refine AA ?_;refine Aab ?_;refine Acr ?_;refine AB ?_;refine AX ?_;refine CG ?_;refine Aaz ?_
  exact AI (res1 rfl rfl) rsubZ selZ ⟨rfl,by rw [decide_eq_false (fun h=>hlen (by rw [h]))]⟩
 refine Aaj ?_;refine Acr ?_;refine AB ?_;refine AX ?_;refine Abc ?_;refine Ab8 ?_
 refine BC [0,1,12] (0:Nat) (fun k=>k ≤ l.length ∧ l.take k = m.take k) (fun k=>[(13,int k)]) (fun _=>[]) (fun k=>l.length - k) pickZ ⟨by omega,by simp⟩ covZ selZ ?_
 rintro k ⟨hk,hI⟩
 by_cases hlt:k < l.length
 ·have hx:=List.getElem?_eq_getElem hlt
  have hx':=List.getElem?_eq_getElem (show k < m.length by omega)
  obtain ⟨b1,o1,rfl,hRd1,_⟩:=shRow hr hx
  obtain ⟨b2,o2,rfl,hRd2,_⟩:=shRow hr' hx'
  refine Abz ?_;refine Abm ?_
  refine A5 (.q 0 (.q 1 (.q 2 (.q 3 (.q 4 (.q 5 (.q 6 (.q 7 (.q 8 .nil))))))))) [] rfl (by kernel_rfl) Sel.nil ?_
  refine Ad ?_;refine BR ?_;refine Ad ?_;refine BR ?_
  focus ((refine' CT rfl _ rfl rfl rfl rfl _; rotate_left; (apply q_neS [l[k].c,l[k].t,l[k].n] [m[k].c,m[k].t,m[k].n] (n:=3); exact rfl; exact rfl; kernel_rfl; kernel_rfl; kernel_rfl; exact rfl; exact rfl)))
  refine A6 ?_
  by_cases he:l[k] = m[k]
  ·rw [he]
   rw [show (!decide ([m[k].c,m[k].t,m[k].n] = [m[k].c,m[k].t,m[k].n])) = false by simp]
   skip
   refine Aaf ?_;refine Aa4 ?_
   refine AZ (k + 1) ⟨by omega,?_⟩ (by omega) covZ selZ
   rw [List.take_succ_eq_append_getElem hlt,List.take_succ_eq_append_getElem (show k < m.length by omega),hI,he]
  ·have hne:¬ ([l[k].c,l[k].t,l[k].n] = [m[k].c,m[k].t,m[k].n]):=fun h=>he (by
    simp only [List.cons.injEq,and_true] at h
    generalize l[k] = x at *
    generalize m[k] = y at *
    obtain ⟨x1,x2,x3⟩:=x
    obtain ⟨y1,y2,y3⟩:=y
    simp only at h
    rw [h.1,h.2.1,h.2.2])
   rw [show (!decide ([l[k].c,l[k].t,l[k].n] = [m[k].c,m[k].t,m[k].n])) = true by simp only [decide_eq_false hne,Bool.not_false]]
   skip
   refine AM rfl ?_;refine Aaj ?_
   exact AI (res1 rfl rfl) rsubZ selZ ⟨rfl,by rw [decide_eq_false (fun h=>he (by subst h; rfl))]⟩
 ·rw [List.take_of_length_le (by omega),List.take_of_length_le (by omega)] at hI
  refine Abt ?_;refine Aaj ?_
  exact AI (res1 rfl rfl) rsubZ selZ ⟨rfl,by rw [decide_eq_true hI]⟩
theorem example54_spec:Eng.Spec Tryz.prog (fv 25) [] [] [] (fun r H'=>∃ bq bc,r = .tuple #[.agg #[.slice (some ⟨bq,0,none⟩) 3 3,.slice (some ⟨bc,0,none⟩) 2 2,.slice none 0 0,.slice none 0 0],.agg #[int 0,int 2,int 4,int 0,int 6]] ∧ H' = [sng bq (.cells #[int 9,int 1,int 9] 3 (0,0)),sng bc (.cells #[int 0,int 1,int 0,int 2,int 3,int 1,int 0,int 1,int 2,int 3,int 5,int 3,int 1,int 0] 57 (0,0))]):=by
 refine spec_in (cap:=[]) Tryz.func25 rfl rfl Tryz.ntmps25 rfl envZ (fun N β=>?_)
 refine Aa ?_;refine AW ?_; rintro _ _ ⟨b,rfl,rfl⟩;refine AW ?_; rintro _ _ ⟨b,rfl,rfl⟩;refine AE ?_;refine Aa ?_;refine BH ?_; rintro _ _ ⟨b,rfl,rfl⟩;refine BS ?_;refine BS ?_
 focus ((refine' BI _ rfl rfl rfl _; rotate_left; (focus (apply CU; exact rfl; exact rfl; exact rfl; exact rfl; exact rfl; exact (by (repeat (first | exact (fun v hv=>absurd hv List.not_mem_nil) | (refine List.forall_mem_cons.2 ⟨?_,?_⟩; (focus (first | exact rfl | assumption))))); first | done | fail); exact Flat.agg7 (Flat.agg7 Flat.nil); exact rfl)); rintro _ _ ⟨b,rfl,rfl⟩))
 refine BS ?_
 revert b; intro bc
 revert b; intro bq
 revert b; intro bd
 revert b; intro bt
 refine CE (DS (out:=[.slice (some ⟨bq,0,none⟩) 3 3,.slice (some ⟨bc,0,none⟩) 2 2,.slice none 0 0,.slice none 0 0]) rfl rfl rfl rfl rfl) rfl rfl rfl ?_;refine BS ?_;refine AV ?_; rintro _ _ ⟨rfl,rfl⟩;refine AV ?_; rintro _ _ ⟨rfl,rfl⟩;refine AE ?_;exact AI (resS2 (b1:=bt) (b2:=bd) (T:=29) (U:=31) (v1:=[.slice (some ⟨bq,0,none⟩) 3 3,.slice (some ⟨bc,0,none⟩) 2 2,.slice none 0 0,.slice none 0 0]) (v2:=[int 0,int 2,int 4,int 0,int 6]) rfl rfl rfl rfl rfl rfl rfl (cells_own memZ) (cells_own memZ)) rsubZ selZ ⟨bq,bc,rfl,rfl⟩
set_option maxHeartbeats 64000000 in
theorem awake54_spec:Ans Tryz.prog (fv 8) [] [] (fun r=>r = .bool true):=by
 have hq:=vok eValid
 have hok:=vok e9Valid
 have hoks:∀ j:Nat,j < 6 → VOk e9 eC [] [] (atE eD (eD.r + ((j + 1:Nat):Int))):=fun j hj=>vok (valid_at e9Valid (show (0:Int) + ((j + 1:Nat):Int) ≤ 6 by omega))
 refine spec_in (cap:=[]) Tryz.func8 rfl rfl Tryz.ntmps8 rfl envZ (fun N β=>?_)
 refine BY ?_;refine Aaj ?_;refine Aa ?_;refine BF example54_spec rfl rfl Takes.nil rdZ rfl rfl ?_;rintro _ _ ⟨bq,bc,rfl,rfl⟩;refine AS (ρ:=sng bq (.cells #[int 9,int 1,int 9] 3 (0,0))) takeZ ?_;refine AS (ρ:=sng bc (.cells #[int 0,int 1,int 0,int 2,int 3,int 1,int 0,int 1,int 2,int 3,int 5,int 3,int 1,int 0] 57 (0,0))) takeZ ?_;refine AS (ρ:=emp) takeZ ?_;refine Aa7 ?_;refine AW ?_; rintro _ _ ⟨b,rfl,rfl⟩;refine AW ?_; rintro _ _ ⟨b,rfl,rfl⟩;refine AV ?_; rintro _ _ ⟨rfl,rfl⟩;refine AV ?_; rintro _ _ ⟨rfl,rfl⟩;refine AE ?_;refine Ab5 ?_
 revert b; intro bd
 revert b; intro bt
 refine AS (ρ:=sng bt _) takeZ ?_
 have ct:=rdB bt 29 [.slice (some ⟨bq,0,none⟩) 3 3,.slice (some ⟨bc,0,none⟩) 2 2,.slice none 0 0,.slice none 0 0]
 have hT:TbAt (sng bq (.cells #[int 9,int 1,int 9] 3 (0,0))) (sng bc (.cells #[int 0,int 1,int 0,int 2,int 3,int 1,int 0,int 1,int 2,int 3,int 5,int 3,int 1,int 0] 57 (0,0))) emp emp (some ⟨bq,0,none⟩) (some ⟨bc,0,none⟩) none none 3 2 0 0 e9 eC [] []:=
  ⟨slE_sng (l:=e9) Eng.encI_len,slE_sng (l:=eC) encC_len,by decide,by decide,by decide,⟨rfl,.inl ⟨rfl,none,0,rfl⟩⟩,by decide,⟨rfl,.inl ⟨rfl,none,0,rfl⟩⟩,by decide⟩
 refine BF (Plan_spec hT eD) rfl rfl Takes.nil rdZ rfl rfl ?_;rintro _ _ (⟨_,acc,vol,ss,c,a,σ1,σ2,σ3,rfl,rfl,hPO,p1,k1,L,p2,k2,rfl,hS,hC,hL⟩ | ⟨hv,_⟩)
 rotate_left
 ·rw [e9Valid] at hv; simp at hv
 obtain ⟨rfl,rfl,rfl,rfl⟩:=e9Plan hq hok hPO
 refine AS (ρ:=σ1) takeZ ?_;refine Aa7 ?_;refine AW ?_; rintro _ _ ⟨b,rfl,rfl⟩;refine AV ?_; rintro _ _ ⟨rfl,rfl⟩;refine Aab ?_;refine Ab5 ?_;refine BZ (Curve_spec hT eD) rfl rfl rdZ rfl rfl ?_;rintro _ χc ⟨uc,rfl,hOc,hex⟩;rw [if_pos e9Valid] at hOc
 have hcv:curveK e9 eC [] [] eD (eD.e - eD.r).toNat = [⟨5,3⟩,⟨6,4⟩]:=e9Curve hq hoks (fun j hj=>hex e9Valid j hj)
 rw [hcv] at hOc
 have hLc:LvAt χc uc [⟨5,3⟩,⟨6,4⟩]:=hOc.at
 obtain ⟨pu,ku,rfl⟩:=hOc.form
 refine AS (ρ:=χc) takeZ ?_;rw [if_pos e9Valid];refine Abe ?_;refine Ady ?_;refine BB ?_; rintro _ _ ⟨rfl,rfl⟩;refine AE ?_;refine Ab5 ?_;refine BF (Plan_spec hT eD5) rfl rfl Takes.nil rdZ rfl rfl ?_;rintro _ _ (⟨_,acc,vol,ss,c,a,σ4,σ5,σ6,rfl,rfl,hPO5,p3,k3,L5,p4,k4,rfl,hS5,hC5,hL5⟩ | ⟨hv,_⟩)
 rotate_left
 ·rw [e9Valid5] at hv; simp at hv
 obtain ⟨rfl,rfl,hcl⟩:=e9Plan5 hq hPO5
 have hLl:L5.length = 3:=by rw [← hcl,← hL5,List.length_map]
 rw [hLl];refine Aa7 ?_;refine AW ?_; rintro _ _ ⟨b,rfl,rfl⟩;refine AV ?_; rintro _ _ ⟨rfl,rfl⟩;refine Ab ?_;refine CK ?_;refine Aax ?_;refine CK ?_;refine AL ?_;refine Aax ?_;refine CK ?_;refine Acs ?_;refine BS ?_;refine BS ?_;refine BS ?_;refine BS ?_;refine BH ?_; rintro _ _ ⟨b,rfl,rfl⟩
 revert b; intro bx
 have hx:=equalX_spec σ1 (sng bx (.cells #[int 0,int 0,int 1,int 0,int 1,int 3,int 1,int 3,int 3,int 1,int 4,int 1] 55 (0,0))) (.slice p1 eL.length k1) (.slice (some ⟨bx,0,none⟩) 4 4) eL eL hS (slE_sng (l:=eL) encX_len) (by decide)
 rw [decide_eq_true rfl] at hx;refine A3 hx rfl rfl rdZ rfl rfl ?_;rintro _ rfl;refine AL ?_;refine Aax ?_;refine BS ?_;refine BS ?_;refine BH ?_; rintro _ _ ⟨b,rfl,rfl⟩
 revert b; intro by_
 have hy:=equalV_spec χc (sng by_ (.cells #[int 5,int 3,int 6,int 4] 50 (0,0))) _ (.slice (some ⟨by_,0,none⟩) 2 2) [⟨5,3⟩,⟨6,4⟩] [⟨5,3⟩,⟨6,4⟩] hLc (slE_sng (l:=[(⟨5,3⟩:Lv),⟨6,4⟩]) encV_len) (by decide)
 rw [decide_eq_true rfl] at hy;refine A3 hy rfl rfl rdZ rfl rfl ?_;rintro _ rfl;refine Acs ?_;refine BD ?_;refine Acs ?_;refine CK ?_;refine Acs ?_;refine AX ?_;refine CK ?_;refine Ab2 ?_;exact AI (res1 rfl rfl) rsubZ selZ ⟨rfl,rfl⟩
end Go.Proofs.YtphehihohghfoaaGreat
/- Law PlannerAnswers. -/
namespace Go.Proofs.YtphehihohghfoaaGreat
open Go.Eng Go.Step
set_option maxRecDepth 100000
set_option maxHeartbeats 4000000

theorem great54_spec (pq pc pb ph:Option Addr) (kq kc kb kh nq nc nb nh:Nat) (d:Dm):Ans Tryz.prog (fv 7) [.agg #[.slice pq nq kq,.slice pc nc kc,.slice pb nb kb,.slice ph nh kh],.agg #[int d.s,int d.d,int d.v,int d.r,int d.e]] [] (fun r=>∃ b,r = .bool b):=by
 refine spec_in (cap:=[]) Tryz.func7 rfl rfl Tryz.ntmps7 rfl envZ (fun N β=>?_)
 refine Aa ?_;refine BI (BK rfl) rfl rfl rfl ?_;rintro _ _ ⟨b1,rfl,rfl⟩;refine AS (ρ:=sng b1 _) takeZ ?_
 have c:=rdB b1 29 [.slice pq nq kq,.slice pc nc kc,.slice pb nb kb,.slice ph nh kh]
 have c0:=rdC c 0
 have c1:=rdC c 1
 have c2:=rdC c 2
 have c3:=rdC c 3
 refine BI (BK rfl) rfl rfl rfl ?_;rintro _ _ ⟨b2,rfl,rfl⟩;refine AS (ρ:=sng b2 _) takeZ ?_
 have cd:=rdB b2 31 [int d.s,int d.d,int d.v,int d.r,int d.e]
 have cd0:=rdC cd 0
 have cd1:=rdC cd 1
 have cd2:=rdC cd 2
 have cd3:=rdC cd 3
 have cd4:=rdC cd 4
 refine Aab ?_;refine Ab5 ?_;refine A3 (great53_spec pq pc pb ph kq kc kb kh nq nc nb nh d) rfl rfl rdZ rfl rfl ?_;rintro _ ⟨b,rfl⟩;refine Aab ?_;exact AI (res1 rfl rfl) rsubZ selZ ⟨rfl,b,rfl⟩
theorem fine54_spec {ρ τ σ υ:PH} {pq pc pb ph:Option Addr} {kq kc kb kh:Nat} {qs:List Int} {cs:List Ct} {bs:List Bk} {hs:List Hd} (hT:TbAt ρ τ σ υ pq pc pb ph kq kc kb kh qs cs bs hs) (d:Dm):Ans Tryz.prog (fv 17) [.agg #[.slice pq qs.length kq,.slice pc cs.length kc,.slice pb bs.length kb,.slice ph hs.length kh],.agg #[int d.s,int d.d,int d.v,int d.r,int d.e]] [ρ,τ,σ,υ] (fun r=>∃ b,r = .bool b ∧ (b = true → validT qs cs bs hs d = true)):=by
 refine spec_in (cap:=[]) Tryz.func17 rfl rfl Tryz.ntmps17 rfl envZ (fun N β=>?_)
 refine Aa ?_;refine BI (BK rfl) rfl rfl rfl ?_;rintro _ _ ⟨b1,rfl,rfl⟩;refine AS (ρ:=sng b1 _) takeZ ?_
 have ct:=rdB b1 29 [.slice pq qs.length kq,.slice pc cs.length kc,.slice pb bs.length kb,.slice ph hs.length kh]
 have ct0:=rdC ct 0
 have ct1:=rdC ct 1
 have ct2:=rdC ct 2
 have ct3:=rdC ct 3
 have ctp:RdP (sng b1 (.cells #[.slice pq qs.length kq,.slice pc cs.length kc,.slice pb bs.length kb,.slice ph hs.length kh] 29 (0,0))) b1 0 [.slice pq qs.length kq,.slice pc cs.length kc]:=rdP_sng (xs:=[.slice pq qs.length kq,.slice pc cs.length kc,.slice pb bs.length kb,.slice ph hs.length kh]) rfl
 refine BI (BK rfl) rfl rfl rfl ?_;rintro _ _ ⟨b2,rfl,rfl⟩;refine AS (ρ:=sng b2 _) takeZ ?_
 have cd:=rdB b2 31 [int d.s,int d.d,int d.v,int d.r,int d.e]
 have cd0:=rdC cd 0
 have cd1:=rdC cd 1
 have cd2:=rdC cd 2
 have cd3:=rdC cd 3
 have cd4:=rdC cd 4
 refine Aab ?_;refine Ab5 ?_;refine A3 (great54_spec pq pc pb ph kq kc kb kh qs.length cs.length bs.length hs.length d) rfl rfl rdZ rfl rfl ?_;rintro _ ⟨b,rfl⟩
 cases b with
 | true =>
  refine BD ?_;refine Aa8 ?_;refine Abx ?_
  exact AI (res1 rfl rfl) rsubZ selZ ⟨rfl,false,rfl,fun h=>by simp at h⟩
 | false =>
 refine BD ?_;refine AB ?_;refine AT ?_;refine AT ?_;refine A3 (refCheck53_spec hT d) rfl rfl rdZ rfl rfl ?_;rintro _ rfl;refine Ab2 ?_
 exact AI (res1 rfl rfl) rsubZ selZ ⟨rfl,validT qs cs bs hs d,rfl,fun h=>h⟩
end Go.Proofs.YtphehihohghfoaaGreat
/- Kinds of numbers turned into one another; halves of sums; shifts. No conditions. -/
namespace Go.Eng
variable {C:Cx} {D:List Deferred} {R H:List PH} {L:Env} {K:List It}
section
variable {dst:Option Tmp} {ty:TypeId} {pos:String} {aft:Array Edge} {g:Option (Nat × Bool)}
theorem wrap_u64 {n:Int} (h:0 ≤ n ∧ n ≤ 18446744073709551615):IntKind.u64.wrap n = n:=by
  have e:IntKind.u64.wrap n = n % 18446744073709551616:=by
    show (let m:=n % (2 ^ IntKind.u64.bits:Int); if IntKind.u64.signed && m ≥ (2 ^ (IntKind.u64.bits - 1):Int) then m - (2 ^ IntKind.u64.bits:Int) else m) = _
    rfl
  rw [e]; omega
theorem q_toU {s d:TypeId} {x:Operand} {n:Nat} (h:evalE L x = some (.int .i64 (n:Int))) (hs:(C.P.underlying s).isSome = true) (hd:kindP C.P d = some .u64) (hn:n ≤ 18446744073709551615) :
    Quiet C R H L ⟨dst,.convert s d x,ty,pos,aft,g⟩ (.int .u64 (n:Int)):=GA h hs hd (wrap_u64 ⟨by omega,by omega⟩)
theorem q_shr {x y:Operand} {xT yT:TypeId} {k k2:IntKind} {m:Int} {s:Nat} (h1:evalE L x = some (.int k m)) (h2:evalE L y = some (.int k2 (s:Int))) (hs:s ≤ k.bits):Quiet C R H L ⟨dst,.binOp .shr xT x y yT,ty,pos,aft,g⟩ (.int k (m.fdiv (2 ^ s))):=
  ⟨by intro c; simp,fun a w hx _=>by
    have e1:=hx x (by simp [Op.operands]) _ h1
    have e2:=hx y (by simp [Op.operands]) _ h2
    have h0:¬ ((s:Int) < 0):=by omega
    have hm:min s k.bits = s:=by omega
    simp [execOp,e1,e2,eqGuard,binOp,Op.shift,h0,hm]⟩
theorem F9 {x y:Operand} {xT yT:TypeId} {k:IntKind} {n:Nat} (h1:evalE L x = some (.int k (n:Int))) (h2:evalE L y = some (.int k 1)) (hs:1 ≤ k.bits):Quiet C R H L ⟨dst,.binOp .shr xT x y yT,ty,pos,aft,g⟩ (.int k ((n / 2:Nat):Int)):=by
  have:=q_shr (C:=C) (R:=R) (H:=H) (dst:=dst) (ty:=ty) (pos:=pos) (aft:=aft) (g:=g) (xT:=xT) (yT:=yT) (s:=1) h1 h2 hs
  have e:(n:Int).fdiv (2 ^ 1) = ((n / 2:Nat):Int):=by
    rw [Int.fdiv_eq_ediv_of_nonneg _ (by decide)]; omega
  rwa [e] at this
end
end Go.Eng
namespace Go.Eng
variable {C:Cx} {D:List Deferred} {R H:List PH} {L:Env} {K:List It}
section
variable {dst:Option Tmp} {ty:TypeId} {pos:String} {aft:Array Edge} {g:Option (Nat × Bool)}
end
end Go.Eng
/- Step functions: checked, their values (as in curve's texts). -/
namespace Go.Proofs.YtphehihohghfoaaGreat
open Go.Eng Go.Step
set_option maxRecDepth 100000
set_option maxHeartbeats 4000000

theorem lvRow' {ρ:PH} {b o:Nat} {l:List Lv} (h:RowsE encV 2 ρ (some ⟨b,o,none⟩) l) {i:Nat} {x:Lv} (hx:l[i]? = some x):rdc ρ b (o + i * 2) = some (int x.a) ∧ rdc ρ b (o + i * 2 + 1) = some (int x.v):=by
 obtain ⟨b',o',e,_,h1,h2⟩:=lvRow h hx
 simp only [Option.some.injEq,Addr.mk.injEq,and_true] at e
 obtain ⟨rfl,rfl⟩:=e
 exact ⟨h1,h2⟩
theorem stepCheck_spec (ρ:PH) (v:Value) (f:List Lv) (hv:LvAt ρ v f) (hl:f.length ≤ 9223372036854775807) :
  Ans Tryz.prog (fv 22) [v] [ρ] (fun r=>r = int (chkS f)):=by
 obtain ⟨q,c,rfl,hr⟩:=hv.val encV_len
 refine spec_in (cap:=[]) Tryz.func22 rfl rfl Tryz.ntmps22 rfl envZ (fun N β=>?_)
 by_cases hbig:1000 < f.length
 ·refine AC ?_
  refine AA ?_;refine Aab ?_;refine Acr ?_;refine CI ?_;refine Aaz ?_
  exact AI (res1 rfl rfl) rsubZ selZ ⟨rfl,by unfold chkS; rw [if_pos hbig]⟩
 have hS:chkS f = chkL (-1) 0 f:=by unfold chkS; rw [if_neg hbig]
 refine Aaj ?_;refine Acr ?_;refine Aed ?_;refine Aa ?_;refine BS ?_;refine AW ?_; rintro _ _ ⟨b,rfl,rfl⟩;refine AV ?_; rintro _ _ ⟨rfl,rfl⟩;refine Aak ?_;refine Aad ?_;refine Abk ?_
 revert b; intro b0
 refine BC [0,3,10,11] (X:=Nat × (Int × Int)) (0,(-1,0)) (fun x=>x.1 ≤ f.length ∧ chkS f = chkL x.2.1 x.2.2 (f.drop x.1)) (fun x=>[(12,int x.1)]) (fun x=>[sng b0 (.cells #[int x.2.1,int x.2.2] 50 (0,0))]) (fun x=>f.length - x.1) pickZ ⟨by dsimp only; omega,by simpa using hS⟩ covZ selZ ?_
 rintro ⟨k,⟨pa,pv⟩⟩ ⟨hk,hI⟩
 dsimp only at hk hI ⊢
 by_cases hlt:k < f.length
 ·have hx:=List.getElem?_eq_getElem hlt
  obtain ⟨b',o,rfl,hA,g0,g1⟩:=lvRow hr hx
  rw [drop_cons hlt] at hI;simp only [chkL] at hI
  rcases bad_cases f[k] with ⟨hb,hbad⟩ | ⟨hok,hb⟩
  ·rw [if_pos hbad] at hI
   rcases hb with hb | hb | hb | hb
   ·refine AC ?_
    refine AA ?_;refine Aa1 ?_;refine Aa ?_;refine Abf ?_;refine AW ?_; rintro _ _ ⟨b,rfl,rfl⟩;refine AV ?_; rintro _ _ ⟨rfl,rfl⟩;refine Aak ?_;refine Aao ?_;refine A9 ?_;refine Abq ?_;refine Adk ?_
    exact AI (res1 rfl rfl) rsubZ selZ ⟨rfl,by rw [hI]⟩
   ·refine AC ?_
    refine AA ?_;refine Aa1 ?_;refine Aa ?_;refine Abf ?_;refine AW ?_; rintro _ _ ⟨b,rfl,rfl⟩;refine AV ?_; rintro _ _ ⟨rfl,rfl⟩;refine Aak ?_;refine Acl ?_;refine CI ?_;refine AJ ?_;refine Adk ?_
    exact AI (res1 rfl rfl) rsubZ selZ ⟨rfl,by rw [hI]⟩
   ·refine AC ?_
    refine AA ?_;refine Aa1 ?_;refine Aa ?_;refine Abf ?_;refine AW ?_; rintro _ _ ⟨b,rfl,rfl⟩;refine AV ?_; rintro _ _ ⟨rfl,rfl⟩;refine Aak ?_;refine Acl ?_;refine Ado ?_;refine A9 ?_;refine AJ ?_;refine Acw ?_
    exact AI (res1 rfl rfl) rsubZ selZ ⟨rfl,by rw [hI]⟩
   ·refine AC ?_
    refine AA ?_;refine Aa1 ?_;refine Aa ?_;refine Abf ?_;refine AW ?_; rintro _ _ ⟨b,rfl,rfl⟩;refine AV ?_; rintro _ _ ⟨rfl,rfl⟩;refine Aak ?_;refine Acl ?_;refine Ado ?_;refine Abd ?_;refine CI ?_;refine Ac9 ?_
    exact AI (res1 rfl rfl) rsubZ selZ ⟨rfl,by rw [hI]⟩
  ·rw [if_neg hok] at hI
   by_cases h1:f[k].a ≤ pa
   ·rw [if_pos (.inl h1)] at hI
    refine Ab7 ?_;refine AW ?_; rintro _ _ ⟨b,rfl,rfl⟩;refine AV ?_; rintro _ _ ⟨rfl,rfl⟩;refine Aak ?_;refine Acl ?_;refine Ado ?_;refine Ads ?_;refine AC ?_;refine Ace ?_;refine CL ?_;refine Ab0 ?_;refine Ad0 ?_
    exact AI (res1 rfl rfl) rsubZ selZ ⟨rfl,by rw [hI]⟩
   ·by_cases h2:f[k].v = pv
    ·rw [if_pos (.inr h2)] at hI
     refine Ab7 ?_;refine AW ?_; rintro _ _ ⟨b,rfl,rfl⟩;refine AV ?_; rintro _ _ ⟨rfl,rfl⟩;refine Aak ?_;refine Acl ?_;refine Ado ?_;refine Ads ?_;refine AC ?_;refine Ace ?_;refine CJ ?_;refine Aa9 ?_;refine CK ?_;refine Ac9 ?_
     exact AI (res1 rfl rfl) rsubZ selZ ⟨rfl,by rw [hI]⟩
    ·rw [if_neg (by omega)] at hI
     refine Ab7 ?_;refine AW ?_; rintro _ _ ⟨b,rfl,rfl⟩;refine AV ?_; rintro _ _ ⟨rfl,rfl⟩;refine Aak ?_;refine Acl ?_;refine Ado ?_;refine Ads ?_;refine AC ?_;refine Ace ?_;refine CJ ?_;refine Aa9 ?_;refine B5 ?_;refine Abg ?_;refine AA ?_;refine AT ?_;refine AV ?_; rintro _ _ ⟨rfl,rfl⟩;refine Ade ?_
     exact AZ (k + 1,(f[k].a,f[k].v)) ⟨by dsimp only; omega,hI⟩ (by dsimp only; omega) covZ selZ
 ·refine AC ?_
  refine Adz ?_;refine Aaj ?_;refine AI (res1 rfl rfl) rsubZ selZ ⟨rfl,?_⟩
  rw [hI,List.drop_of_length_le (by omega)]; rfl
theorem cmpV_spec (x:Lv) (t:Int) (h:In64 (x.a - t)):Ans Tryz.prog (fv 86) [.agg #[int x.a,int x.v],int t] [] (fun r=>r = int (x.a - t)):=by
 have h1:=h.1
 have h2:=h.2
 refine spec_in (cap:=[]) Tryz.func86 rfl rfl Tryz.ntmps86 rfl envZ (fun N β=>?_)
 refine Aa ?_;refine B7 ?_; rintro _ _ ⟨b,rfl,rfl⟩;refine Abv ?_;refine AB ?_;refine CZ ?_;refine Aab ?_;exact AI (res1 rfl rfl) rsubZ selZ ⟨rfl,rfl⟩
set_option maxHeartbeats 8000000 in
theorem bsearch_spec (ρ:PH) (v:Value) (f:List Lv) (t:Int) (hv:LvAt ρ v f) (hA:AscT (-1) f) (hl:f.length ≤ 1000) (ht:0 ≤ t ∧ t ≤ 1099511627776) :
  Ans Tryz.prog (fv 85) [v,int t,fv 86] [ρ] (fun r=>∃ k:Nat,k ≤ f.length ∧ (∀ (u:Nat) (x:Lv),u < k → f[u]? = some x → x.a < t) ∧ (∀ x,f[k]? = some x → t ≤ x.a) ∧
   r = .tuple #[int k,.bool (decide (∃ x,f[k]? = some x ∧ x.a = t))]):=by
 obtain ⟨q,c,rfl,hr⟩:=hv.val encV_len
 refine spec_in (cap:=[]) Tryz.func85 rfl rfl Tryz.ntmps85 rfl envZ (fun N β=>?_)
 refine Acf ?_;refine Aad ?_;refine AX ?_;refine Ab ?_;refine Aan ?_;refine Aat ?_
 refine BC [0,1,2,8] (X:=Nat × Nat) (0,f.length) (fun x=>x.1 ≤ x.2 ∧ x.2 ≤ f.length ∧ (∀ (u:Nat) (y:Lv),u < x.1 → f[u]? = some y → y.a < t) ∧ (∀ y,f[x.2]? = some y → t ≤ y.a)) (fun x=>[(9,int x.1),(10,int x.2)]) (fun _=>[]) (fun x=>x.2 - x.1)
  pickZ ⟨by dsimp only; omega,by dsimp only; omega,by dsimp only; intro u y hu; omega,by dsimp only; intro y hy; simp at hy⟩ covZ selZ ?_
 rintro ⟨i,j⟩ ⟨h1,h2,h3,h4⟩
 dsimp only at h1 h2 h3 h4 ⊢
 by_cases hlt:i < j
 ·have hh:(i + j) / 2 < f.length:=by omega
  have hx:=List.getElem?_eq_getElem hh
  obtain ⟨b',o,rfl,hRd,g0,g1⟩:=lvRow hr hx
  have hgt:=hA.gt f[(i + j) / 2] (List.getElem_mem hh)
  refine Ab6 ?_;refine A9 ?_;refine Aag ?_;refine AK ?_;refine AP ?_;refine Abn ?_;refine CS ?_
  rw [show (i:Int) + (j:Int) = ((i + j:Nat):Int) from by omega]
  focus ((refine' CE _ rfl rfl rfl _; rotate_left; (apply q_toU; exact rfl; exact rfl; exact rfl; omega)))
  focus ((refine' CE _ rfl rfl rfl _; rotate_left; (apply F9; exact rfl; exact rfl; decide)))
  refine FY ?_;refine Ab ?_;refine Aax ?_;refine Abf ?_;refine AB ?_
  refine A3 (cmpV_spec f[(i + j) / 2] t ⟨by omega,by omega⟩) rfl rfl rdZ rfl rfl ?_
  rintro _ rfl
  by_cases hc:f[(i + j) / 2].a < t
  ·refine A9 ?_
   refine Add ?_;refine AB ?_;refine Ac2 ?_;refine A4 ?_
   refine AZ ((i + j) / 2 + 1,j) ⟨by dsimp only; omega,h2,fun u y hu hy=>?_,h4⟩ (by dsimp only; omega) covZ selZ
   dsimp only at hu
   by_cases e:u = (i + j) / 2
   ·subst e
    rw [hx] at hy
    obtain rfl:=Option.some.inj hy
    exact hc
   ·have:=hA.idx u ((i + j) / 2) y _ hy hx (by omega)
    omega
  ·refine AY ?_
   refine AE ?_;refine AN rfl ?_;refine AA ?_;refine AB ?_;refine Aab ?_;refine A4 ?_
   refine AZ (i,(i + j) / 2) ⟨by dsimp only; omega,by dsimp only; omega,h3,fun y hy=>?_⟩ (by dsimp only; omega) covZ selZ
   dsimp only at hy
   rw [hx] at hy
   obtain rfl:=Option.some.inj hy
   omega
 ·have e:i = j:=by omega
  subst e
  by_cases hlt2:i < f.length
  ·have hx:=List.getElem?_eq_getElem hlt2
   obtain ⟨b',o,rfl,hRd,g0,g1⟩:=lvRow hr hx
   have hgt:=hA.gt f[i] (List.getElem_mem hlt2)
   refine Ab6 ?_;refine Aec ?_;refine Aad ?_;refine Aax ?_;refine A9 ?_;refine Aax ?_;refine Aax ?_;refine Abf ?_;refine AB ?_
   refine A3 (cmpV_spec f[i] t ⟨by omega,by omega⟩) rfl rfl rdZ rfl rfl ?_
   rintro _ rfl
   by_cases he:f[i].a = t
   ·refine CK ?_
    refine AL ?_;refine Aan ?_;refine AI (res2 rfl rfl rfl) rsubZ selZ ⟨rfl,i,h2,h3,h4,?_⟩;rw [decide_eq_true ⟨f[i],hx,he⟩]
   ·refine B5 ?_
    refine AL ?_;refine Aan ?_;refine AI (res2 rfl rfl rfl) rsubZ selZ ⟨rfl,i,h2,h3,h4,?_⟩
    rw [decide_eq_false (fun ⟨x,h5,h6⟩=>by rw [hx] at h5; obtain rfl:=Option.some.inj h5; exact he h6)]
  ·refine AC ?_
   refine Abn ?_;refine Aec ?_;refine Aad ?_;refine Aax ?_;refine AY ?_;refine Ack ?_;refine Aaa ?_;refine AJ ?_;refine Aan ?_;refine AI (res2 rfl rfl rfl) rsubZ selZ ⟨rfl,i,h2,h3,h4,?_⟩
   rw [decide_eq_false (fun ⟨x,h5,h6⟩=>by rw [List.getElem?_eq_none (by omega)] at h5; simp at h5)]
theorem stepValueT_spec (ρ:PH) (v:Value) (f:List Lv) (t:Int) (hv:LvAt ρ v f) (hA:AscT (-1) f) (hl:f.length ≤ 1000) (ht:0 ≤ t ∧ t ≤ 1099511627776) :
  Ans Tryz.prog (fv 49) [v,int t] [ρ] (fun r=>r = int (val f t)):=by
 have hv2:=hv
 obtain ⟨q,c,rfl,hr⟩:=hv.val encV_len
 refine spec_in (cap:=[]) Tryz.func49 rfl rfl Tryz.ntmps49 rfl envZ (fun N β=>?_)
 refine Aaj ?_;refine Abn ?_;refine A3 (bsearch_spec ρ _ f t hv2 hA hl ht) rfl rfl rdZ rfl rfl ?_;rintro _ ⟨k,hk,h1,h2,rfl⟩
 by_cases he:∃ x,f[k]? = some x ∧ x.a = t
 ·rw [decide_eq_true he]
  obtain ⟨x,hx,hxa⟩:=he
  obtain ⟨b',o,rfl,hRd,g0,g1⟩:=lvRow hr hx
  have hlt:k < f.length:=(List.getElem?_eq_some_iff.1 hx).1
  have hval:=val_idx (f:=f) (t:=t) (i:=k + 1) (by omega) (fun u y hu hy=>by
   by_cases e:u = k
   ·subst e; rw [hx] at hy; obtain rfl:=Option.some.inj hy; omega
   ·have:=h1 u y (by omega) hy; omega) (fun y hy=>by have:=hA.idx k (k + 1) x y hx hy (by omega); omega)
  have hxe:f[k] = x:=(List.getElem?_eq_some_iff.1 hx).2
  rw [prV_succ hlt,hxe] at hval;refine Ac ?_;refine Aag ?_;refine Abn ?_;refine A8 ?_;refine DD ?_;refine AF ?_;refine Aab ?_
  exact AI (res1 rfl rfl) rsubZ selZ ⟨rfl,by rw [hval]⟩
 ·rw [decide_eq_false he]
  have hval:=val_idx (f:=f) (t:=t) (i:=k) hk (fun u y hu hy=>by have:=h1 u y hu hy; omega) (fun y hy=>by
   have h5:=h2 y hy
   have:y.a ≠ t:=fun e=>he ⟨y,hy,e⟩
   omega)
  rcases Nat.eq_zero_or_pos k with h0 | h0
  ·subst h0
   refine Ac ?_;refine Aal ?_;refine Aam ?_;refine CK ?_;refine Aaz ?_
   exact AI (res1 rfl rfl) rsubZ selZ ⟨rfl,by rw [hval]; rfl⟩
  ·obtain ⟨j,rfl⟩:∃ j,k = j + 1:=⟨k - 1,by omega⟩
   have hj:j < f.length:=by omega
   obtain ⟨b',o,rfl,hRd,g0,g1⟩:=lvRow hr (List.getElem?_eq_getElem hj)
   have ej:j + 1 - 1 = j:=by omega
   rw [prV_succ hj] at hval;refine Ac ?_;refine Aal ?_;refine Aam ?_;refine B5 ?_;refine Aal ?_;refine Abn ?_;refine C6 ?_;refine A8 ?_;refine DD ?_;refine AF ?_;refine Aab ?_
   focus ((rw [ej]))
   exact AI (res1 rfl rfl) rsubZ selZ ⟨rfl,by rw [hval]⟩
theorem stepValue_spec (ρ:PH) (v:Value) (f:List Lv) (t:Int) (hv:LvAt ρ v f) (hA:Asc (-1) f) (hl:f.length ≤ 1000) (ht:0 ≤ t ∧ t ≤ 1099511627776) :
  Ans Tryz.prog (fv 49) [v,int t] [ρ] (fun r=>r = int (val f t)):=stepValueT_spec ρ v f t hv hA.t hl ht
theorem atV_spec (ρ:PH) (v:Value) (f:List Lv) (t:Int) (hv:LvAt ρ v f) (hl:f.length ≤ 9223372036854775807) :
  Ans Tryz.prog (fv 23) [v,int t] [ρ] (fun r=>r = int (if chkS f = 0 ∧ 0 ≤ t then val f (min t 1099511627776) else 0)):=by
 have hv2:=hv
 obtain ⟨q,c,rfl,hr⟩:=hv.val encV_len
 refine spec_in (cap:=[]) Tryz.func23 rfl rfl Tryz.ntmps23 rfl envZ (fun N β=>?_)
 refine Aaj ?_;refine Aam ?_;refine A3 (stepCheck_spec ρ _ f hv2 hl) rfl rfl rdZ rfl rfl ?_;rintro _ rfl
 by_cases h0:chkS f = 0
 rotate_left
 ·refine CG ?_
  refine Aaw ?_;refine Ad0 ?_
  exact AI (res1 rfl rfl) rsubZ selZ ⟨rfl,by rw [if_neg (fun h=>h0 h.1)]⟩
 by_cases h1:t < 0
 ·refine BE ?_
  refine Aax ?_;refine A9 ?_;refine Ac9 ?_
  exact AI (res1 rfl rfl) rsubZ selZ ⟨rfl,by rw [if_neg (by omega)]⟩
 obtain ⟨hlen,hA⟩:=chkS_ok h0
 refine BE ?_;refine Aax ?_;refine AY ?_;refine Abg ?_;refine Abn ?_;refine E2 ?_
 refine A3 (stepValue_spec ρ _ f (min t 1099511627776) hv2 hA hlen (by omega)) rfl rfl rdZ rfl rfl ?_
 rintro _ rfl;refine Aab ?_
 exact AI (res1 rfl rfl) rsubZ selZ ⟨rfl,by rw [if_pos ⟨h0,by omega⟩]⟩
end Go.Proofs.YtphehihohghfoaaGreat
/- One more booking. No program in sight. No conditions. -/
namespace Go.Step
open Go.Eng (insL insL_len)
end Go.Step
/- Fewer bookings, fewer holds, a later deadline: still valid, and no less can be brought. No program in sight. No conditions. -/
namespace Go.Step
section
variable {qs:List Int} {cs:List Ct} {bs:List Bk} {hs:List Hd} {d:Dm} {F F':List Int} {m m' e e':Int}
theorem most_late {x:Int} (h:VOk qs cs bs hs d) (h':VOk qs cs bs hs ⟨d.s,d.d,d.v,d.r,x⟩) (hx:d.e ≤ x) (hm:MaxN qs cs bs hs d F m e) (hm':MaxN qs cs bs hs ⟨d.s,d.d,d.v,d.r,x⟩ F' m' e'):m ≤ m':=
  max_mono h' h rfl rfl rfl hx (fun _ _ hb=>hb) (fun _ _=>Int.le_refl _) hm' hm
end
end Go.Step
/- The curve of what can be brought until when: it rises, and its values are the most up to then. No program in sight. No conditions. -/
namespace Go.Step
variable {qs:List Int} {cs:List Ct} {bs:List Bk} {hs:List Hd} {d:Dm}
theorem vat_snoc_late:∀ (f:List Lv) (l:Lv) (cur t:Int),t < l.a → vat cur (f ++ [l]) t = vat cur f t
  | [],l,cur,t,h=>by simp only [List.nil_append,vat]; rw [if_neg (by omega)]
  | m :: f,l,cur,t,h=>by
    simp only [List.cons_append,vat];rw [vat_snoc_late f l m.v t h]
theorem chkL_of:∀ {f:List Lv} {pa pv:Int},(∀ l ∈ f,¬ badL l ∧ pa < l.a ∧ pv < l.v) → f.Pairwise (fun x y=>x.a < y.a ∧ x.v < y.v) → chkL pa pv f = 0
  | [],_,_,_,_=>rfl
  | l :: f,pa,pv,h,hp=>by
    obtain ⟨h1,h2,h3⟩:=h l (by simp)
    obtain ⟨p1,p2⟩:=List.pairwise_cons.1 hp
    simp only [chkL]
    rw [if_neg h1,if_neg (by omega)]
    exact chkL_of (fun m hm=>⟨(h m (by simp [hm])).1,p1 m hm⟩) p2
theorem curve_rises {K:Nat} (hm:∀ j,j < K → mostK qs cs bs hs d j ≤ mostK qs cs bs hs d (j + 1)) (hb:∀ j,j ≤ K → 0 ≤ mostK qs cs bs hs d j):∀ {k:Nat},k ≤ K →
    (∀ l ∈ curveK qs cs bs hs d k,d.r < l.a ∧ l.a ≤ d.r + k ∧ 1 ≤ l.v ∧ l.v ≤ mostK qs cs bs hs d k) ∧ (curveK qs cs bs hs d k).Pairwise (fun x y=>x.a < y.a ∧ x.v < y.v) ∧ (∀ j:Nat,j ≤ k → val (curveK qs cs bs hs d k) (d.r + j) = mostK qs cs bs hs d j) ∧ ∀ t,d.r + k ≤ t → val (curveK qs cs bs hs d k) t = mostK qs cs bs hs d k
  | 0,_=>by
    have e0:mostK qs cs bs hs d 0 = 0:=by unfold mostK; rw [if_pos rfl]
    refine ⟨by simp [curveK],.nil,fun j hj=>?_,fun t _=>?_⟩
    · have:j = 0:=by omega
      subst this;rw [e0]; rfl
    · rw [e0]; rfl
  | k + 1,hk=>by
    obtain ⟨i1,i2,i3,i4⟩:=curve_rises hm hb (k:=k) (by omega)
    have hk1:=hm k (by omega)
    have hb0:=hb k (by omega)
    have e:curveK qs cs bs hs d (k + 1) = curveK qs cs bs hs d k ++ (if mostK qs cs bs hs d (k + 1) ≠ mostK qs cs bs hs d k then [⟨d.r + (k + 1:Nat),mostK qs cs bs hs d (k + 1)⟩] else []):=rfl
    by_cases hc:mostK qs cs bs hs d (k + 1) = mostK qs cs bs hs d k
    · rw [if_neg (fun hh=>hh hc),List.append_nil] at e
      rw [e,hc]
      refine ⟨fun l hl=>?_,i2,fun j hj=>?_,fun t ht=>i4 t (by omega)⟩
      · have:=i1 l hl
        omega
      · by_cases hjk:j ≤ k
        · exact i3 j hjk
        · have:j = k + 1:=by omega
          subst this;rw [hc]
          exact i4 _ (by omega)
    · rw [if_pos hc] at e
      rw [e]
      have hlt:∀ l ∈ curveK qs cs bs hs d k,∀ t:Int,d.r + k ≤ t → l.a ≤ t:=fun l hl t ht=>by have:=i1 l hl; omega
      refine ⟨fun l hl=>?_,?_,fun j hj=>?_,fun t ht=>?_⟩
      · rcases List.mem_append.1 hl with hl | hl
        · have:=i1 l hl
          omega
        · rw [List.mem_singleton] at hl
          subst hl
          dsimp only
          omega
      · rw [List.pairwise_append]
        refine ⟨i2,List.pairwise_singleton _ _,fun x hx y hy=>?_⟩
        rw [List.mem_singleton] at hy;subst hy
        have:=i1 x hx
        dsimp only
        omega
      · by_cases hjk:j ≤ k
        · rw [← i3 j hjk]
          unfold val
          exact vat_snoc_late _ _ _ _ (by dsimp only; omega)
        · have:j = k + 1:=by omega
          subst this;unfold val
          exact vat_last _ _ _ _ (fun l hl=>hlt l hl _ (by omega)) (by dsimp only; omega)
      · unfold val
        exact vat_last _ _ _ _ (fun l hl=>hlt l hl _ (by omega)) (by dsimp only; omega)
theorem most_rises (h:VOk qs cs bs hs d) (hv:validT qs cs bs hs d = true) {K:Nat} (hK:d.r + K ≤ d.e) (hex:∀ j,j < K → ∃ F m,MaxN qs cs bs hs (atE d (d.r + ((j + 1:Nat):Int))) F m 0) (hok:∀ j,j < K → VOk qs cs bs hs (atE d (d.r + ((j + 1:Nat):Int)))) :
    (∀ j,j < K → mostK qs cs bs hs d j ≤ mostK qs cs bs hs d (j + 1)) ∧ ∀ j,j ≤ K → 0 ≤ mostK qs cs bs hs d j ∧ mostK qs cs bs hs d j ≤ 6400000:=by
  have hb:∀ j,j ≤ K → 0 ≤ mostK qs cs bs hs d j ∧ mostK qs cs bs hs d j ≤ 6400000:=fun j hj=>by
    cases j with
    | zero=>unfold mostK; rw [if_pos rfl]; omega
    | succ j =>
      obtain ⟨F,m,hm⟩:=hex j (by omega)
      rw [mostK_eq hm]
      exact ⟨max_nonneg (hok j (by omega)) hm,max_small (hok j (by omega)) hm⟩
  refine ⟨fun j hj=>?_,hb⟩
  cases j with
  | zero =>
    have:=hb 1 (by omega)
    unfold mostK at this ⊢;rw [if_pos rfl];exact this.1
  | succ j =>
    obtain ⟨F,m,hm⟩:=hex j (by omega)
    obtain ⟨G,n,hn⟩:=hex (j + 1) (by omega)
    rw [mostK_eq hm,mostK_eq hn]
    exact most_late (d:=atE d (d.r + ((j + 1:Nat):Int))) (hok j (by omega)) (hok (j + 1) (by omega)) (by unfold atE; dsimp only; omega) hm hn
theorem curve_chk (h:VOk qs cs bs hs d) {K:Nat} (hK:d.r + K ≤ d.e) (hl:∀ l ∈ curveK qs cs bs hs d K,d.r < l.a ∧ l.a ≤ d.r + K ∧ 1 ≤ l.v ∧ l.v ≤ mostK qs cs bs hs d K) (hp:(curveK qs cs bs hs d K).Pairwise (fun x y=>x.a < y.a ∧ x.v < y.v)) (hb:mostK qs cs bs hs d K ≤ 6400000):chkS (curveK qs cs bs hs d K) = 0:=by
  have hdm:=h.dm
  unfold okDm at hdm
  have hlen:=curveK_len qs cs bs hs d K
  unfold chkS
  rw [if_neg (by omega)]
  refine chkL_of (fun l hh=>?_) hp
  have:=hl l hh
  unfold badL;omega
end Go.Step
/- Law PlannerCurves. -/
namespace Go.Proofs.YtphehihohghfoaaGreat
open Go.Eng Go.Step
set_option maxRecDepth 100000
set_option maxHeartbeats 4000000

set_option maxHeartbeats 64000000 in
theorem curves_law {ρ τ σ υ:PH} {pq pc pb ph:Option Addr} {kq kc kb kh:Nat} {qs:List Int} {cs:List Ct} {bs:List Bk} {hs:List Hd} (hT:TbAt ρ τ σ υ pq pc pb ph kq kc kb kh qs cs bs hs) (d:Dm) (z:Int) (hz:0 ≤ z ∧ z ≤ 255) :
  Ans Tryz.prog (fv 6) [.agg #[.slice pq qs.length kq,.slice pc cs.length kc,.slice pb bs.length kb,.slice ph hs.length kh],.agg #[int d.s,int d.d,int d.v,int d.r,int d.e],.int .u8 z] [ρ,τ,σ,υ] (fun r=>r = .bool true):=by
 have hf:=fine54_spec hT d
 refine spec_in (cap:=[]) Tryz.func6 rfl rfl Tryz.ntmps6 rfl envZ (fun N β=>?_)
 refine Aa ?_;refine BI (BK rfl) rfl rfl rfl ?_;rintro _ _ ⟨b1,rfl,rfl⟩;refine AS (ρ:=sng b1 _) takeZ ?_
 have ct:=rdB b1 29 [.slice pq qs.length kq,.slice pc cs.length kc,.slice pb bs.length kb,.slice ph hs.length kh]
 have ct0:=rdC ct 0
 have ct1:=rdC ct 1
 have ct2:=rdC ct 2
 have ct3:=rdC ct 3
 have ctp:RdP (sng b1 (.cells #[.slice pq qs.length kq,.slice pc cs.length kc,.slice pb bs.length kb,.slice ph hs.length kh] 29 (0,0))) b1 0 [.slice pq qs.length kq,.slice pc cs.length kc]:=rdP_sng (xs:=[.slice pq qs.length kq,.slice pc cs.length kc,.slice pb bs.length kb,.slice ph hs.length kh]) rfl
 refine BI (BK rfl) rfl rfl rfl ?_;rintro _ _ ⟨b2,rfl,rfl⟩;refine AS (ρ:=sng b2 _) takeZ ?_
 have cd:=rdB b2 31 [int d.s,int d.d,int d.v,int d.r,int d.e]
 have cd0:=rdC cd 0
 have cd1:=rdC cd 1
 have cd2:=rdC cd 2
 have cd3:=rdC cd 3
 have cd4:=rdC cd 4
 refine Abm ?_;refine Ab5 ?_;refine A3 hf rfl rfl rdZ rfl rfl ?_;rintro _ ⟨fb,rfl,hfb⟩
 cases fb with
 | false =>
  refine Ad4 ?_;refine Aa ?_;refine A3 awake54_spec rfl rfl rdZ rfl rfl ?_;rintro _ rfl;refine Aab ?_;exact AI (res1 rfl rfl) rsubZ selZ ⟨rfl,rfl⟩
 | true =>
 have hv:=hfb rfl
 have h:=vok hv
 have hdm:=h.dm
 unfold okDm at hdm
 have hnf:¬ validT qs cs bs hs d = false:=by rw [hv]; simp
 refine Acc ?_;refine Ab5 ?_;refine BZ (Curve_spec hT d) rfl rfl rdZ rfl rfl ?_;rintro _ χ ⟨u,rfl,hO,hex⟩;rw [if_pos hv] at hO
 have hex:=hex hv
 have hV:LvAt χ u (curveK qs cs bs hs d (d.e - d.r).toNat):=hO.at
 obtain ⟨pu,ku,rfl⟩:=hO.form
 refine AS (ρ:=χ) takeZ ?_;rw [if_pos hv]
 have hcl:=curveK_len qs cs bs hs d (d.e - d.r).toNat
 have hoks:∀ j,j < (d.e - d.r).toNat → VOk qs cs bs hs (atE d (d.r + ((j + 1:Nat):Int))):=fun j hj=>vok (valid_at hv (by omega))
 obtain ⟨m1,m2⟩:=most_rises h hv (K:=(d.e - d.r).toNat) (by omega) hex hoks
 obtain ⟨c1,c2,c3,c4⟩:=curve_rises m1 (fun j hj=>(m2 j hj).1) (Nat.le_refl _)
 have hchk:=curve_chk h (K:=(d.e - d.r).toNat) (by omega) c1 c2 (m2 _ (Nat.le_refl _)).2
 have hKr:d.r + ((d.e - d.r).toNat:Int) = d.e:=by omega
 refine Abe ?_;refine Ab5 ?_;refine A3 (Most_spec hT d) rfl rfl rdZ rfl rfl ?_;rintro _ (⟨_,F,m,hm,rfl⟩ | ⟨h1,_⟩)
 rotate_left
 ·exact absurd h1 hnf
 have hmK:mostK qs cs bs hs d (d.e - d.r).toNat = m:=by
  obtain ⟨j,hj⟩:∃ j,(d.e - d.r).toNat = j + 1:=⟨(d.e - d.r).toNat - 1,by omega⟩
  obtain ⟨G,n,hn⟩:=hex j (by omega)
  have hn2:=hn
  rw [← hj,hKr,show atE d d.e = d from rfl] at hn2
  rw [hj,mostK_eq hn];exact (hn2.uniq hm).2.1
 obtain ⟨j,hjd⟩:∃ j:Nat,(j:Int) = z % (d.e - d.r):=⟨(z % (d.e - d.r)).toNat,Int.toNat_of_nonneg (Int.emod_nonneg _ (by omega))⟩
 have hj2:z % (d.e - d.r) < d.e - d.r:=Int.emod_lt_of_pos _ (by omega)
 obtain ⟨x,hx⟩:∃ x,x = d.r + 1 + z % (d.e - d.r):=⟨_,rfl⟩
 have hxj:x = d.r + ((j + 1:Nat):Int):=by omega
 have hvx:validT qs cs bs hs ⟨d.s,d.d,d.v,d.r,x⟩ = true:=by rw [hxj]; exact valid_at hv (by omega)
 refine Abe ?_;refine Abo ?_;refine AW ?_; rintro _ _ ⟨b,rfl,rfl⟩;refine AV ?_; rintro _ _ ⟨rfl,rfl⟩;refine Aak ?_
 revert b; intro b11
 refine DZ (X:=Unit) [3,4,7,8,9,10,11] (fun _=>True) (fun _=>[]) (fun _=>[sng b11 (.cells #[int d.s,int d.d,int d.v,int d.r,int x] 31 (0,0))]) pickZ ?_ ?_
 ·refine A5 (.q 0 (.q 1 (.q 2 (.q 3 (.q 4 (.q 5 (.q 6 (.q 7 (.q 8 (.q 9 (.q 10 (.q 11 (.q 12 (.l 13 .b .nil)))))))))))))) [] rfl (by kernel_rfl) selZ ?_
  refine Aaq ?_;refine CY ?_;refine AR ?_;refine FZ ?_;refine Ac8 ?_;refine EL ?_;refine zd_rem ?_;refine CY ?_;refine AU ?_;refine C5 ?_; rintro _ _ ⟨rfl,rfl⟩;refine A6 ?_;rw [← hx];exact C8 () trivial covZ selZ
 rintro _ _
 dsimp only
 refine AS (ρ:=sng b11 (.cells #[int d.s,int d.d,int d.v,int d.r,int x] 31 (0,0))) takeZ ?_
 have cX:=rdB b11 31 [int d.s,int d.d,int d.v,int d.r,int x]
 have cX4:=rdC cX 4
 refine Ab5 ?_;refine A3 (Most_spec hT ⟨d.s,d.d,d.v,d.r,x⟩) rfl rfl rdZ rfl rfl ?_;rintro _ (⟨_,F3,m3,hm3,rfl⟩ | ⟨hv9,rfl⟩)
 rotate_left
 ·rw [hvx] at hv9; simp at hv9
 have hmj:mostK qs cs bs hs d (j + 1) = m3:=by
  refine mostK_eq (F:=F3) ?_;unfold atE;rw [← hxj];exact hm3
 have hck:=stepCheck_spec χ _ _ hV (by omega)
 rw [hchk] at hck
 have hat:=fun t=>atV_spec χ _ _ t hV (by omega)
 have ha1:=hat d.e
 have ha2:=hat 1099511627776
 have ha3:=hat x
 rw [if_pos ⟨hchk,by omega⟩,show min d.e 1099511627776 = d.e by omega,c4 _ (by omega),hmK] at ha1
 rw [if_pos ⟨hchk,by omega⟩,show min (1099511627776:Int) 1099511627776 = 1099511627776 by omega,c4 _ (by omega),hmK] at ha2
 rw [if_pos ⟨hchk,by omega⟩,show min x 1099511627776 = x by omega,hxj,c3 _ (by omega),hmj,← hxj] at ha3
 have hrs:=rowN encV_len hV
 clear hO hex hat m1 m2 c3 c4 hchk
 generalize mostK qs cs bs hs d (d.e - d.r).toNat = MK at c1
 generalize curveK qs cs bs hs d (d.e - d.r).toNat = C at hV hcl c1 c2 hck ha1 ha2 ha3 hrs
 refine Ac ?_;refine BE ?_;refine Aax ?_;refine BE ?_;refine AJ ?_;refine Aax ?_;refine BE ?_;refine AJ ?_;refine Aax ?_;refine A3 hck rfl rfl rdZ rfl rfl ?_;rintro _ rfl;refine BE ?_;refine Abg ?_;refine Ab8 ?_
 refine BC [3,4,7,9,11,12,68,69] (0:Nat) (fun k=>k ≤ C.length) (fun k=>[(70,int k)]) (fun _=>[]) (fun k=>C.length - k) pickZ (by omega) covZ selZ ?_
 rintro k hk
 by_cases hlt:k < C.length
 rotate_left
 ·refine AC ?_
  refine Adz ?_;refine Aad ?_;refine Aac ?_;refine A3 ha1 rfl rfl rdZ rfl rfl ?_;rintro _ rfl;refine AB ?_;refine CK ?_;refine Aax ?_;refine A3 ha2 rfl rfl rdZ rfl rfl ?_;rintro _ rfl;refine AB ?_;refine CK ?_;refine AL ?_;refine AB ?_;refine Aae ?_;refine A3 ha3 rfl rfl rdZ rfl rfl ?_;rintro _ rfl;refine AB ?_;refine CK ?_;refine AL ?_;refine AB ?_;refine A3 awake54_spec rfl rfl rdZ rfl rfl ?_;rintro _ rfl;refine Ab2 ?_;exact AI (res1 rfl rfl) rsubZ selZ ⟨rfl,rfl⟩
 have hy:=List.getElem?_eq_getElem hlt
 obtain ⟨l1,l2,l3,l4⟩:=c1 _ (List.getElem_mem hlt)
 have hp:=List.pairwise_iff_getElem.1 c2
 obtain ⟨b7,o7,rfl,hRd,_⟩:=lvRow hrs hy
 rcases Nat.eq_zero_or_pos k with h0 | h0
 ·subst h0
  generalize C[0] = y at hy l1 l2 l3 l4 hRd
  refine Adi ?_;refine AW ?_; rintro _ _ ⟨b,rfl,rfl⟩;refine AD ?_;refine AV ?_; rintro _ _ ⟨rfl,rfl⟩;refine Aak ?_
  revert b; intro b15
  refine DZ (X:=Unit) [3,4,7,9,11,12,68,69,70] (fun _=>True) (fun _=>[(106,.bool false)]) (fun _=>[]) pickZ ?_ ?_
  ·refine A5 (.q 0 (.q 1 (.q 2 (.q 3 (.q 4 (.q 5 (.q 6 (.q 7 (.q 8 (.q 9 (.q 10 (.q 11 (.q 12 (.q 13 (.q 14 (.q 15 (.q 16 (.q 17 (.q 18 (.q 19 (.q 20 (.q 21 (.q 22 (.q 23 (.q 24 (.q 25 (.q 26 (.q 27 (.q 28 (.q 29 (.q 30 (.q 31 .nil)))))))))))))))))))))))))))))))) [] rfl (by kernel_rfl) selZ ?_
   refine Ac8 ?_;refine D0 ?_;refine Acn ?_;refine Aaq ?_;refine C3 ?_;refine BN ?_;refine Aa6 ?_;refine C3 ?_;refine Ad8 ?_;refine A0 rfl rfl rfl rfl rfl ?_;refine BN ?_;refine BN ?_;refine Acn ?_;refine DE ?_;refine BN ?_;refine A6 ?_;exact C8 () trivial covZ selZ
  rintro _ _
  try dsimp only
  refine Aaf ?_;refine Aa4 ?_
  exact AZ 1 (by omega) (by omega) covZ selZ
 obtain ⟨i,hi⟩:∃ i,k = i + 1:=⟨k - 1,by omega⟩
 have hil:i < C.length:=by omega
 have hlv:=(hp i k hil hlt (by omega)).2
 have hyi:=List.getElem?_eq_getElem hil
 obtain ⟨e1,e2⟩:=lvRow' hrs hyi
 generalize C[k] = y at hy l1 l2 l3 l4 hRd hlv
 generalize C[i] = w at hyi hlv e1 e2
 subst hi
 have e3:rdc χ b7 (o7 + (i + 1 - 1) * 2 + 1) = some (int w.v):=by rw [show i + 1 - 1 = i by omega]; exact e2
 refine Adi ?_;refine AW ?_; rintro _ _ ⟨b,rfl,rfl⟩;refine AD ?_;refine AV ?_; rintro _ _ ⟨rfl,rfl⟩;refine Aak ?_
 revert b; intro b15
 refine DZ (X:=Unit) [3,4,7,9,11,12,68,69,70] (fun _=>True) (fun _=>[(106,.bool false)]) (fun _=>[]) pickZ ?_ ?_
 ·refine A5 (.q 0 (.q 1 (.q 2 (.q 3 (.q 4 (.q 5 (.q 6 (.q 7 (.q 8 (.q 9 (.q 10 (.q 11 (.q 12 (.q 13 (.q 14 (.q 15 (.q 16 (.q 17 (.q 18 (.q 19 (.q 20 (.q 21 (.q 22 (.q 23 (.q 24 (.q 25 (.q 26 (.q 27 (.q 28 (.q 29 (.q 30 (.q 31 .nil)))))))))))))))))))))))))))))))) [] rfl (by kernel_rfl) selZ ?_
  refine Ac8 ?_;refine D0 ?_;refine Acn ?_;refine Aaq ?_;refine C3 ?_;refine BN ?_;refine Aa6 ?_;refine DY ?_;refine Acn ?_;refine Ad9 ?_;refine D0 ?_;refine BW ?_;refine BN ?_;refine Acn ?_;refine DE ?_;refine BN ?_;refine A6 ?_;exact C8 () trivial covZ selZ
 rintro _ _
 try dsimp only
 refine Aaf ?_;refine Aa4 ?_
 exact AZ (i + 1 + 1) (by omega) (by omega) covZ selZ
end Go.Proofs.YtphehihohghfoaaGreat
/- The rows: each law, for every input. -/
namespace Go.Proofs.YtphehihohghfoaaGreat
open Go.Eng Go.Step
set_option maxRecDepth 100000
set_option maxHeartbeats 4000000
open Go.ChangeShapes Go.WideShapes Go.ChangeAt Go.RowKit

set_option maxRecDepth 100000 in
theorem plannerCurves_lifted (os:Os) (started:os.Started) (H:Type) (enc:TypeId × Value → H) :
  ReturnsInHanded {} Tryz.checked os 6 .any (Rows.plannerCurvesSpec.pre6 enc Tryz.prog Tryz.f6 Rows.plannerCurvesRow.domain false) (Rows.plannerCurvesSpec.post enc Tryz.prog Tryz.f6 false true false false):=by
 refine returnsInHanded_of_change (C:=Tryz.checked) Tryz.own started (by kernel_rfl) Tryz.func6
  (ChangeSpec.witness6 (enc:=enc) (C:=Tryz.checked) false ⟨#[],#[.agg #[.slice none 0 0,.slice none 0 0,.slice none 0 0,.slice none 0 0],.agg #[.int .i64 0,.int .i64 0,.int .i64 0,.int .i64 0,.int .i64 0],.int .u8 0],[]⟩ 8 (by kernel_rfl) (by kernel_rfl) (by kernel_rfl) (by kernel_rfl)) ?_
 intro W base args ds gs before hval0 hW hcnd _
 have hval:∀ (j:Nat) t v,Tryz.f6.params[j]? = some t → args[j]? = some v → Value.okWide Tryz.prog W .any base t v:=hval0
 have hW':=hW
 obtain ⟨p,q,hA0,hV,rfl,hfz,hnd⟩:=hW
 have hA:DataW.TrodAll enc Tryz.prog W 0 (fun _=>true) true Tryz.f6.params.toList args.toList ds p:=hA0
 rw [Tryz.params6] at hA hval
 obtain ⟨v0,vs0,d0,ds0,p0,q0,hargs,rfl,rfl,h0,r0⟩:=trodAll_cons hA
 obtain ⟨v1,vs1,d1,ds1,p1,q1,rfl,rfl,rfl,h1,r1⟩:=trodAll_cons r0
 obtain ⟨v2,vs2,d2,ds2,p2,q2,rfl,rfl,rfl,h2,r2⟩:=trodAll_cons r1
 obtain ⟨rfl,rfl,rfl⟩:=trodAll_nil r2
 obtain rfl:args = #[v0,v1,v2]:=by cases args; simp_all
 obtain ⟨rfl,rfl⟩:=trodVars_none hV
 have lt0:∀ x ∈ p0,x.block < W.heap.size:=by obtain ⟨m,hm⟩:=h0; exact DataW.trod_lt m _ _ _ hm
 have lt1:∀ x ∈ p1,x.block < W.heap.size:=by obtain ⟨m,hm⟩:=h1; exact DataW.trod_lt m _ _ _ hm
 have lt2:∀ x ∈ p2,x.block < W.heap.size:=by obtain ⟨m,hm⟩:=h2; exact DataW.trod_lt m _ _ _ hm
 have hlaw:Ans Tryz.prog (fv 6) [v0,v1,v2] [heapPH W] (fun v=>v = .bool true):=by
  obtain ⟨pq,pc,pb,ph,kq,kc,kb,kh,qs,cs,bs,hs,rfl,hT⟩:=tables_of (hval 0 _ v0 rfl rfl) (RdT.of h0)
  obtain ⟨d,rfl,id0,id1,id2,id3,id4⟩:=demand_of (hval 1 _ v1 rfl rfl) (RdT.of h1)
  obtain ⟨z,rfl,_,_,wz⟩:=open_int Tryz.underlying5 (hval 2 _ v2 rfl rfl) h2
  exact (curves_law hT d z (wf_u8 wz)).rsub (fun _ h=>by simpa using h)
 refine (law_calls Tryz.func6 rfl rfl hlaw).mono fun e W' ⟨he,bel⟩=>?_
 subst he
 exact ⟨_,rfl,_,_,_,[],_,[],hW',trodAll_mk1 (shut_bool Tryz.underlying4 _),(trodAll_cons_mk (Below.trod Tryz.laidOut (by kernel_rfl) (of_decide_eq_true (by kernel_rfl)) h0 bel lt0) (trodAll_cons_mk (Below.trod Tryz.laidOut (by kernel_rfl) (of_decide_eq_true (by kernel_rfl)) h1 bel lt1) (trodAll_cons_mk (Below.trod Tryz.laidOut (by kernel_rfl) (of_decide_eq_true (by kernel_rfl)) h2 bel lt2) trodAll_mk0))),rfl,bel.frame _,fun h=>by cases h⟩
theorem plannerCurves_holds:Rows.PlannerCurvesSaid:=
 OpenClaim.holds_of_wide 6 Tryz.f6 rfl rfl rfl rfl rfl rfl rfl ⟨rfl,rfl,rfl,rfl,rfl⟩ rfl rfl rfl rfl rfl (by kernel_rfl) Tryz.func6 (by kernel_rfl)
  (of_decide_eq_true (by kernel_rfl)) (by unfold Func.isWrapper; first | (rw [if_pos (by decide +kernel)]; kernel_rfl) | (rw [if_neg (by decide +kernel)]; exact ⟨rfl,rfl⟩))
  (fun os started H enc _=>plannerCurves_lifted os started H enc)
end Go.Proofs.YtphehihohghfoaaGreat
