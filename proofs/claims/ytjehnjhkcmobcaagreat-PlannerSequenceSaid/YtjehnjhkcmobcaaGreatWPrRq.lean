/- Texts of this proof, one after the other; no conditions. -/
import Derived.Test.YtjehnjhkcmobcaaGreatWB13
import Derived.Test.YtjehnjhkcmobcaaGreatWB3
import Derived.Test.YtjehnjhkcmobcaaGreatWB7
import Derived.Test.YtjehnjhkcmobcaaGreatWB5
import Derived.Test.YtjehnjhkcmobcaaGreatWB8
import Derived.Test.YtjehnjhkcmobcaaGreatWB2
set_option linter.all false
/- The planner's example. No program in sight. No conditions. -/
namespace Go.Step
open Go.Flow (Flw fval inCap)
def e9:List Int:=[9,1,9]
def eD5:Dm:=⟨0,2,5,0,6⟩
theorem e9Valid:validT e9 eC [] [] eD = true:=by decide +kernel
theorem e9Valid5:validT e9 eC [] [] eD5 = true:=by decide +kernel
theorem e9Arcs:arcsE e9 eC [] [] eD = eA:=by decide +kernel
theorem e9Arcs5:arcsE e9 eC [] [] eD5 = eA:=by decide +kernel
theorem e9G:arcsG e9 eC [] [] eD = arcsG eQ eC [] [] eD:=by rw [eG]; unfold arcsG; rw [e9Arcs]
theorem e9G5:arcsG e9 eC [] [] eD5 = arcsG eQ eC [] [] eD:=by rw [eG]; unfold arcsG; rw [e9Arcs5]
theorem e9Max (hok:VOk eQ eC [] [] eD) {F:List Int} {m e:Int} (hm:MaxN e9 eC [] [] eD F m e):m = 4:=by
  have h:MaxN eQ eC [] [] eD F m e:=by
    unfold MaxN at hm ⊢;rw [e9G] at hm;exact hm
  exact (eMax hok h).2.1
theorem e9Max5 (hok:VOk eQ eC [] [] eD) {F:List Int} {m e:Int} (hm:MaxN e9 eC [] [] eD5 F m e):m = 4:=by
  have h:MaxN eQ eC [] [] eD F m e:=by
    unfold MaxN at hm ⊢;rw [e9G5] at hm;exact hm
  exact (eMax hok h).2.1
def eL:List Sh:=[⟨0,0,1⟩,⟨0,1,3⟩,⟨1,3,3⟩,⟨1,4,1⟩]
theorem eShipsL {F:List Int} (hf:Flw 21 (arcsG eQ eC [] [] eD) 0 20 F) (hv:fval 0 (arcsG eQ eC [] [] eD) F = 4):shipsF eA F = eL:=by
  rw [eG] at hf hv
  have hl:=hf.len
  have hc:=hf.cap
  have e0:=hf.bal 1 (by omega) (by omega) (by omega)
  have e7:=hf.bal 7 (by omega) (by omega) (by omega)
  have e8:=hf.bal 8 (by omega) (by omega) (by omega)
  have e9:=hf.bal 9 (by omega) (by omega) (by omega)
  have e10:=hf.bal 10 (by omega) (by omega) (by omega)
  have e11:=hf.bal 11 (by omega) (by omega) (by omega)
  have e12:=hf.bal 12 (by omega) (by omega) (by omega)
  have e13:=hf.bal 13 (by omega) (by omega) (by omega)
  have e2:=hf.bal 2 (by omega) (by omega) (by omega)
  have e3:=hf.bal 3 (by omega) (by omega) (by omega)
  have e4:=hf.bal 4 (by omega) (by omega) (by omega)
  have e5:=hf.bal 5 (by omega) (by omega) (by omega)
  have e6:=hf.bal 6 (by omega) (by omega) (by omega)
  clear hf
  match F,hl with
  | [a0,a1,a2,a3,a4,a5,a6,a7,a8,a9,a10,a11,a12,a13,a14,a15,a16,a17,a18,a19,a20,a21],_ =>
    simp [eA,fval] at hv e0 e7 e8 e9 e10 e11 e12 e13 e2 e3 e4 e5 e6
    simp [eA,inCap] at hc
    have h18:a18 = 1:=by omega
    have h19:a19 = 3:=by omega
    have h20:a20 = 3:=by omega
    have h21:a21 = 1:=by omega
    subst h18 h19 h20 h21
    simp [eA,shipsF,eL]
theorem e9Plan (hq:VOk eQ eC [] [] eD) (hok:VOk e9 eC [] [] eD) {acc:Bool} {vol:Int} {ss:List Sh} {c:Cu} (hp:PlanOK e9 eC [] [] eD acc vol ss c):acc = true ∧ vol = 4 ∧ ss = eL ∧ c = []:=by
  obtain ⟨F,m,hm,hp⟩:=hp
  have h4:=e9Max hq hm
  subst h4
  rcases hp with ⟨a1,_⟩ | ⟨a1,a2,a3,a4,ps,a5,a6⟩
  · exact absurd a1 (by decide)
  refine ⟨a2,a3,?_,a4⟩
  obtain ⟨N,S,T,hN,hS,hT,hf,hv,_⟩:=part_ok hok e9Valid hm a5 a1
  have n1 : N = 21 := by have : vsN e9 eD = 21 := by decide +kernel
                         omega
  have n2 : S = 0 := by have : vtx eD eD.s eD.r = 0 := eS
                        omega
  have n3 : T = 20 := by have : vtx eD eD.d eD.e = 20 := eT
                         omega
  subst n1 n2 n3;rw [e9G] at hf hv;rw [a6,e9Arcs];exact eShipsL hf hv
theorem e9Plan5 (hq:VOk eQ eC [] [] eD) {acc:Bool} {vol:Int} {ss:List Sh} {c:Cu} (hp:PlanOK e9 eC [] [] eD5 acc vol ss c):acc = false ∧ vol = 4 ∧ c.length = 3:=by
  obtain ⟨F,m,hm,hp⟩:=hp
  have h4:=e9Max5 hq hm
  subst h4
  rcases hp with ⟨a1,a2,a3,a4,side,k,_,a6⟩ | ⟨a1,_⟩
  · exact ⟨a2,a3,by rw [a6,sidesC_len]; rfl⟩
  · exact absurd a1 (by decide)
theorem max_val {qs:List Int} {cs:List Ct} {bs:List Bk} {hs:List Hd} {d:Dm} (h:VOk qs cs bs hs d) {F fl:List Int} {m e v:Int} {N S T:Nat} (hm:MaxN qs cs bs hs d F m e) (hN:vsN qs d = N) (hS:vtx d d.s d.r = S) (hT:vtx d d.d d.e = T) (hf:Flw N (arcsG qs cs bs hs d) S T fl) (hv:fval S (arcsG qs cs bs hs d) fl = v) {P:Int → Int → Bool} (h1:P d.s d.r = true) (h2:P d.d d.e = false) (hc:capB qs cs bs hs d P = v):m = v:=by
  obtain ⟨_,N',S',T',hN',hS',hT',hf',hv',P',p1,p2,p3⟩:=max_cut h hm
  have a:=flow_le_cap h hN' hS' hT' hf' h1 h2
  have b:=flow_le_cap h hN hS hT hf p1 p2
  omega
theorem e9Flow5:Flw 18 (arcsG e9 eC [] [] (atE eD 5)) 0 17 [3,0,0,0,0,0,0,0,0,0,0,0,0,0,0,0,3,3]:=by
  refine ⟨by decide +kernel,by decide +kernel,?_⟩
  have:∀ v:Fin 18,v.1 ≠ 0 → v.1 ≠ 17 → fval v.1 (arcsG e9 eC [] [] (atE eD 5)) [3,0,0,0,0,0,0,0,0,0,0,0,0,0,0,0,3,3] = 0:=by decide +kernel
  exact fun v hv h1 h2=>this ⟨v,hv⟩ h1 h2
theorem e9Curve (hq:VOk eQ eC [] [] eD) (hok:∀ j:Nat,j < 6 → VOk e9 eC [] [] (atE eD (eD.r + ((j + 1:Nat):Int)))) (hex:∀ j:Nat,j < 6 → ∃ F m,MaxN e9 eC [] [] (atE eD (eD.r + ((j + 1:Nat):Int))) F m 0):curveK e9 eC [] [] eD 6 = [⟨5,3⟩,⟨6,4⟩]:=by
  have hz:∀ j:Nat,j < 6 → capB e9 eC [] [] (atE eD (eD.r + ((j + 1:Nat):Int))) (fun n _=>decide (n ≠ 2)) = 0 → mostK e9 eC [] [] eD (j + 1) = 0:=fun j hj hc=>by
    obtain ⟨F,m,hm⟩:=hex j hj
    rw [mostK_eq hm]
    have h0:=max_nonneg (hok j hj) hm
    obtain ⟨_,N,S,T,hN,hS,hT,hf,hv,_⟩:=max_cut (hok j hj) hm
    have:=flow_le_cap (hok j hj) hN hS hT hf (P:=fun n _=>decide (n ≠ 2)) rfl rfl
    omega
  have m0:mostK e9 eC [] [] eD 0 = 0:=rfl
  have m1:=hz 0 (by omega) (by decide +kernel)
  have m2:=hz 1 (by omega) (by decide +kernel)
  have m3:=hz 2 (by omega) (by decide +kernel)
  have m4:=hz 3 (by omega) (by decide +kernel)
  have m5:mostK e9 eC [] [] eD 5 = 3:=by
    obtain ⟨F,m,hm⟩:=hex 4 (by omega)
    rw [show (5:Nat) = 4 + 1 from rfl,mostK_eq hm]
    exact max_val (hok 4 (by omega)) hm (N:=18) (S:=0) (T:=17) (by decide +kernel) (by decide +kernel) (by decide +kernel) e9Flow5 (by decide +kernel) (P:=fun n _=>decide (n ≠ 2)) rfl rfl (by decide +kernel)
  have m6:mostK e9 eC [] [] eD 6 = 4:=by
    obtain ⟨F,m,hm⟩:=hex 5 (by omega)
    rw [show (6:Nat) = 5 + 1 from rfl,mostK_eq hm]
    exact e9Max hq hm
  unfold curveK curveK curveK curveK curveK curveK curveK;simp only [m0,m1,m2,m3,m4,m5,m6]
  decide
end Go.Step
/- The example is awake. -/
namespace Go.Proofs.YtjehnjhkcmobcaaGreat
open Go.Eng Go.Step
set_option maxRecDepth 100000
set_option maxHeartbeats 4000000

theorem equalX_spec (ρ τ:PH) (v w:Value) (l m:List Sh) (hv:ShAt ρ v l) (hw:ShAt τ w m) (hl:l.length ≤ 9223372036854775807) :
  Ans Tryz.prog (fv 26) [v,w] [ρ,τ] (fun r=>r = .bool (decide (l = m))):=by
 obtain ⟨q,c,rfl,hr⟩:=hv.val encX_len
 obtain ⟨q',c',rfl,hr'⟩:=hw.val encX_len
 refine spec_in (cap:=[]) Tryz.func26 rfl rfl Tryz.ntmps26 rfl envZ (fun N β=>?_)
 by_cases hlen:l.length = m.length
 rotate_left
 ·refine AC ?_
  refine AA ?_;refine Aaa ?_;refine Aeu ?_;refine CK ?_;refine Aa4 ?_
  exact AI (res1 rfl rfl) rsubZ selZ ⟨rfl,by rw [decide_eq_false (fun h=>hlen (by rw [h]))]⟩
 refine Aak ?_;refine Aeu ?_;refine Abb ?_;refine Abt ?_
 refine BA [0,1,12] (0:Nat) (fun k=>k ≤ l.length ∧ l.take k = m.take k) (fun k=>[(13,int k)]) (fun _=>[]) (fun k=>l.length - k) pickZ ⟨by omega,by simp⟩ covZ selZ ?_
 rintro k ⟨hk,hI⟩
 by_cases hlt:k < l.length
 ·have hx:=List.getElem?_eq_getElem hlt
  have hx':=List.getElem?_eq_getElem (show k < m.length by omega)
  obtain ⟨b1,o1,rfl,hRd1,_⟩:=shRow hr hx
  obtain ⟨b2,o2,rfl,hRd2,_⟩:=shRow hr' hx'
  refine Ab3 ?_;refine Abi ?_
  refine A8 (.q 0 (.q 1 (.q 2 (.q 3 (.q 4 (.q 5 (.q 6 (.q 7 (.q 8 .nil))))))))) [] rfl (by kernel_rfl) Sel.nil ?_
  refine Aeg ?_;refine Aeg ?_
  focus ((refine' CR rfl _ rfl rfl rfl rfl _; rotate_left; (apply F9 [l[k].c,l[k].t,l[k].n] [m[k].c,m[k].t,m[k].n] (n:=3); exact rfl; exact rfl; kernel_rfl; kernel_rfl; kernel_rfl; exact rfl; exact rfl)))
  refine A5 ?_
  by_cases he:l[k] = m[k]
  ·rw [he]
   rw [show (!decide ([m[k].c,m[k].t,m[k].n] = [m[k].c,m[k].t,m[k].n])) = false by simp]
   skip
   refine Aae ?_;refine Aa0 ?_
   refine AX (k + 1) ⟨by omega,?_⟩ (by omega) covZ selZ
   rw [List.take_succ_eq_append_getElem hlt,List.take_succ_eq_append_getElem (show k < m.length by omega),hI,he]
  ·have hne:¬ ([l[k].c,l[k].t,l[k].n] = [m[k].c,m[k].t,m[k].n]):=fun h=>he (by
    simp only [List.cons.injEq,and_true] at h
    generalize l[k] = x at *
    generalize m[k] = y at *
    obtain ⟨x1,x2,x3⟩:=x
    obtain ⟨y1,y2,y3⟩:=y
    simp only at h
    rw [h.1,h.2.1,h.2.2])
   rw [show (!decide ([l[k].c,l[k].t,l[k].n] = [m[k].c,m[k].t,m[k].n])) = true by simp only [decide_eq_false hne,Bool.not_false]]
   skip
   refine AM rfl ?_;refine Aak ?_
   exact AI (res1 rfl rfl) rsubZ selZ ⟨rfl,by rw [decide_eq_false (fun h=>he (by subst h; rfl))]⟩
 ·rw [List.take_of_length_le (by omega),List.take_of_length_le (by omega)] at hI
  refine Abl ?_;refine Aak ?_
  exact AI (res1 rfl rfl) rsubZ selZ ⟨rfl,by rw [decide_eq_true hI]⟩
theorem example54_spec:Eng.Spec Tryz.prog (fv 24) [] [] [] (fun r H'=>∃ bq bc,r = .tuple #[.agg #[.slice (some ⟨bq,0,none⟩) 3 3,.slice (some ⟨bc,0,none⟩) 2 2,.slice none 0 0,.slice none 0 0],.agg #[int 0,int 2,int 4,int 0,int 6]] ∧ H' = [sng bq (.cells #[int 9,int 1,int 9] 3 (0,0)),sng bc (.cells #[int 0,int 1,int 0,int 2,int 3,int 1,int 0,int 1,int 2,int 3,int 5,int 3,int 1,int 0] 114 (0,0))]):=by
 refine spec_in (cap:=[]) Tryz.func24 rfl rfl Tryz.ntmps24 rfl envZ (fun N β=>?_)
 refine Aa ?_;refine AY ?_; rintro _ _ ⟨b,rfl,rfl⟩;refine AY ?_; rintro _ _ ⟨b,rfl,rfl⟩;refine AE ?_;refine Aa ?_;refine BD ?_; rintro _ _ ⟨b,rfl,rfl⟩;refine BR ?_;refine BR ?_
 focus ((refine' BH _ rfl rfl rfl _; rotate_left; (focus (apply C6; exact rfl; exact rfl; exact rfl; exact rfl; exact rfl; exact (by (repeat (first | exact (fun v hv=>absurd hv List.not_mem_nil) | (refine List.forall_mem_cons.2 ⟨?_,?_⟩; (focus (first | exact rfl | assumption))))); first | done | fail); exact Flat.agg7 (Flat.agg7 Flat.nil); exact rfl)); rintro _ _ ⟨b,rfl,rfl⟩))
 refine BR ?_
 revert b; intro bc
 revert b; intro bq
 revert b; intro bd
 revert b; intro bt
 refine CH (BO (out:=[.slice (some ⟨bq,0,none⟩) 3 3,.slice (some ⟨bc,0,none⟩) 2 2,.slice none 0 0,.slice none 0 0]) rfl rfl rfl rfl rfl) rfl rfl rfl ?_;refine BR ?_;refine AU ?_; rintro _ _ ⟨rfl,rfl⟩;refine AU ?_; rintro _ _ ⟨rfl,rfl⟩;refine AE ?_;exact AI (resS2 (b1:=bt) (b2:=bd) (T:=29) (U:=31) (v1:=[.slice (some ⟨bq,0,none⟩) 3 3,.slice (some ⟨bc,0,none⟩) 2 2,.slice none 0 0,.slice none 0 0]) (v2:=[int 0,int 2,int 4,int 0,int 6]) rfl rfl rfl rfl rfl rfl rfl (cells_own memZ) (cells_own memZ)) rsubZ selZ ⟨bq,bc,rfl,rfl⟩
set_option maxHeartbeats 64000000 in
theorem awake54_spec:Ans Tryz.prog (fv 7) [] [] (fun r=>r = .bool true):=by
 have hq:=vok eValid
 have hok:=vok e9Valid
 have hoks:∀ j:Nat,j < 6 → VOk e9 eC [] [] (atE eD (eD.r + ((j + 1:Nat):Int))):=fun j hj=>vok (valid_at e9Valid (show (0:Int) + ((j + 1:Nat):Int) ≤ 6 by omega))
 refine spec_in (cap:=[]) Tryz.func7 rfl rfl Tryz.ntmps7 rfl envZ (fun N β=>?_)
 refine BY ?_;refine Aak ?_;refine Aa ?_;refine BC example54_spec rfl rfl Takes.nil rdZ rfl rfl ?_;rintro _ _ ⟨bq,bc,rfl,rfl⟩;refine AT (ρ:=sng bq (.cells #[int 9,int 1,int 9] 3 (0,0))) takeZ ?_;refine AT (ρ:=sng bc (.cells #[int 0,int 1,int 0,int 2,int 3,int 1,int 0,int 1,int 2,int 3,int 5,int 3,int 1,int 0] 114 (0,0))) takeZ ?_;refine AT (ρ:=emp) takeZ ?_;refine Abe ?_;refine AY ?_; rintro _ _ ⟨b,rfl,rfl⟩;refine AY ?_; rintro _ _ ⟨b,rfl,rfl⟩;refine AU ?_; rintro _ _ ⟨rfl,rfl⟩;refine AU ?_; rintro _ _ ⟨rfl,rfl⟩;refine AE ?_;refine Ace ?_
 revert b; intro bd
 revert b; intro bt
 refine AT (ρ:=sng bt _) takeZ ?_
 have ct:=rdB bt 29 [.slice (some ⟨bq,0,none⟩) 3 3,.slice (some ⟨bc,0,none⟩) 2 2,.slice none 0 0,.slice none 0 0]
 have hT:TbAt (sng bq (.cells #[int 9,int 1,int 9] 3 (0,0))) (sng bc (.cells #[int 0,int 1,int 0,int 2,int 3,int 1,int 0,int 1,int 2,int 3,int 5,int 3,int 1,int 0] 114 (0,0))) emp emp (some ⟨bq,0,none⟩) (some ⟨bc,0,none⟩) none none 3 2 0 0 e9 eC [] []:=
  ⟨slE_sng (l:=e9) Eng.encI_len,slE_sng (l:=eC) encC_len,by decide,by decide,by decide,⟨rfl,.inl ⟨rfl,none,0,rfl⟩⟩,by decide,⟨rfl,.inl ⟨rfl,none,0,rfl⟩⟩,by decide⟩
 refine BC (Plan_spec hT eD) rfl rfl Takes.nil rdZ rfl rfl ?_;rintro _ _ (⟨_,acc,vol,ss,c,a,σ1,σ2,σ3,rfl,rfl,hPO,p1,k1,L,p2,k2,rfl,hS,hC,hL⟩ | ⟨hv,_⟩)
 rotate_left
 ·rw [e9Valid] at hv; simp at hv
 obtain ⟨rfl,rfl,rfl,rfl⟩:=e9Plan hq hok hPO
 refine AT (ρ:=σ1) takeZ ?_;refine Abe ?_;refine AY ?_; rintro _ _ ⟨b,rfl,rfl⟩;refine AU ?_; rintro _ _ ⟨rfl,rfl⟩;refine Aaa ?_;refine Ace ?_;refine CB (Curve_spec hT eD) rfl rfl rdZ rfl rfl ?_;rintro _ χc ⟨uc,rfl,hOc,hex⟩;rw [if_pos e9Valid] at hOc
 have hcv:curveK e9 eC [] [] eD (eD.e - eD.r).toNat = [⟨5,3⟩,⟨6,4⟩]:=e9Curve hq hoks (fun j hj=>hex e9Valid j hj)
 rw [hcv] at hOc
 have hLc:LvAt χc uc [⟨5,3⟩,⟨6,4⟩]:=hOc.at
 obtain ⟨pu,ku,rfl⟩:=hOc.form
 refine AT (ρ:=χc) takeZ ?_;rw [if_pos e9Valid];refine Abo ?_;refine Aci ?_;refine BF ?_; rintro _ _ ⟨rfl,rfl⟩;refine AE ?_;refine Ace ?_;refine BC (Plan_spec hT eD5) rfl rfl Takes.nil rdZ rfl rfl ?_;rintro _ _ (⟨_,acc,vol,ss,c,a,σ4,σ5,σ6,rfl,rfl,hPO5,p3,k3,L5,p4,k4,rfl,hS5,hC5,hL5⟩ | ⟨hv,_⟩)
 rotate_left
 ·rw [e9Valid5] at hv; simp at hv
 obtain ⟨rfl,rfl,hcl⟩:=e9Plan5 hq hPO5
 have hLl:L5.length = 3:=by rw [← hcl,← hL5,List.length_map]
 rw [hLl];refine Abe ?_;refine AY ?_; rintro _ _ ⟨b,rfl,rfl⟩;refine AU ?_; rintro _ _ ⟨rfl,rfl⟩;refine Aa8 ?_;refine CT ?_;refine Aa1 ?_;refine CT ?_;refine AN ?_;refine Aa1 ?_;refine CT ?_;refine Ac4 ?_;refine BR ?_;refine BR ?_;refine BR ?_;refine BR ?_;refine BD ?_; rintro _ _ ⟨b,rfl,rfl⟩
 revert b; intro bx
 have hx:=equalX_spec σ1 (sng bx (.cells #[int 0,int 0,int 1,int 0,int 1,int 3,int 1,int 3,int 3,int 1,int 4,int 1] 62 (0,0))) (.slice p1 eL.length k1) (.slice (some ⟨bx,0,none⟩) 4 4) eL eL hS (slE_sng (l:=eL) encX_len) (by decide)
 rw [decide_eq_true rfl] at hx;refine A3 hx rfl rfl rdZ rfl rfl ?_;rintro _ rfl;refine AN ?_;refine Aa1 ?_;refine BR ?_;refine BR ?_;refine BD ?_; rintro _ _ ⟨b,rfl,rfl⟩
 revert b; intro by_
 have hy:=equalV_spec χc (sng by_ (.cells #[int 5,int 3,int 6,int 4] 72 (0,0))) _ (.slice (some ⟨by_,0,none⟩) 2 2) [⟨5,3⟩,⟨6,4⟩] [⟨5,3⟩,⟨6,4⟩] hLc (slE_sng (l:=[(⟨5,3⟩:Lv),⟨6,4⟩]) encV_len) (by decide)
 rw [decide_eq_true rfl] at hy;refine A3 hy rfl rfl rdZ rfl rfl ?_;rintro _ rfl;refine Ac4 ?_;refine BE ?_;refine Ac4 ?_;refine CT ?_;refine Ac4 ?_;refine AV ?_;refine CT ?_;refine Ab2 ?_;exact AI (res1 rfl rfl) rsubZ selZ ⟨rfl,rfl⟩
end Go.Proofs.YtjehnjhkcmobcaaGreat
/- Law PlannerAnswers. -/
namespace Go.Proofs.YtjehnjhkcmobcaaGreat
open Go.Eng Go.Step
set_option maxRecDepth 100000
set_option maxHeartbeats 4000000

theorem great54_spec (pq pc pb ph:Option Addr) (kq kc kb kh nq nc nb nh:Nat) (d:Dm):Ans Tryz.prog (fv 15) [.agg #[.slice pq nq kq,.slice pc nc kc,.slice pb nb kb,.slice ph nh kh],.agg #[int d.s,int d.d,int d.v,int d.r,int d.e]] [] (fun r=>∃ b,r = .bool b):=by
 refine spec_in (cap:=[]) Tryz.func15 rfl rfl Tryz.ntmps15 rfl envZ (fun N β=>?_)
 refine Aa ?_;refine BH (BM rfl) rfl rfl rfl ?_;rintro _ _ ⟨b1,rfl,rfl⟩;refine AT (ρ:=sng b1 _) takeZ ?_
 have c:=rdB b1 29 [.slice pq nq kq,.slice pc nc kc,.slice pb nb kb,.slice ph nh kh]
 have c0:=rdC c 0
 have c1:=rdC c 1
 have c2:=rdC c 2
 have c3:=rdC c 3
 refine BH (BM rfl) rfl rfl rfl ?_;rintro _ _ ⟨b2,rfl,rfl⟩;refine AT (ρ:=sng b2 _) takeZ ?_
 have cd:=rdB b2 31 [int d.s,int d.d,int d.v,int d.r,int d.e]
 have cd0:=rdC cd 0
 have cd1:=rdC cd 1
 have cd2:=rdC cd 2
 have cd3:=rdC cd 3
 have cd4:=rdC cd 4
 refine Aaa ?_;refine Ace ?_;refine A3 (great53_spec pq pc pb ph kq kc kb kh nq nc nb nh d) rfl rfl rdZ rfl rfl ?_;rintro _ ⟨b,rfl⟩;refine Aaa ?_;exact AI (res1 rfl rfl) rsubZ selZ ⟨rfl,b,rfl⟩
theorem fine54_spec {ρ τ σ υ:PH} {pq pc pb ph:Option Addr} {kq kc kb kh:Nat} {qs:List Int} {cs:List Ct} {bs:List Bk} {hs:List Hd} (hT:TbAt ρ τ σ υ pq pc pb ph kq kc kb kh qs cs bs hs) (d:Dm):Ans Tryz.prog (fv 6) [.agg #[.slice pq qs.length kq,.slice pc cs.length kc,.slice pb bs.length kb,.slice ph hs.length kh],.agg #[int d.s,int d.d,int d.v,int d.r,int d.e]] [ρ,τ,σ,υ] (fun r=>∃ b,r = .bool b ∧ (b = true → validT qs cs bs hs d = true)):=by
 refine spec_in (cap:=[]) Tryz.func6 rfl rfl Tryz.ntmps6 rfl envZ (fun N β=>?_)
 refine Aa ?_;refine BH (BM rfl) rfl rfl rfl ?_;rintro _ _ ⟨b1,rfl,rfl⟩;refine AT (ρ:=sng b1 _) takeZ ?_
 have ct:=rdB b1 29 [.slice pq qs.length kq,.slice pc cs.length kc,.slice pb bs.length kb,.slice ph hs.length kh]
 have ct0:=rdC ct 0
 have ct1:=rdC ct 1
 have ct2:=rdC ct 2
 have ct3:=rdC ct 3
 have ctp:RdP (sng b1 (.cells #[.slice pq qs.length kq,.slice pc cs.length kc,.slice pb bs.length kb,.slice ph hs.length kh] 29 (0,0))) b1 0 [.slice pq qs.length kq,.slice pc cs.length kc]:=rdP_sng (xs:=[.slice pq qs.length kq,.slice pc cs.length kc,.slice pb bs.length kb,.slice ph hs.length kh]) rfl
 refine BH (BM rfl) rfl rfl rfl ?_;rintro _ _ ⟨b2,rfl,rfl⟩;refine AT (ρ:=sng b2 _) takeZ ?_
 have cd:=rdB b2 31 [int d.s,int d.d,int d.v,int d.r,int d.e]
 have cd0:=rdC cd 0
 have cd1:=rdC cd 1
 have cd2:=rdC cd 2
 have cd3:=rdC cd 3
 have cd4:=rdC cd 4
 refine Aaa ?_;refine Ace ?_;refine A3 (great54_spec pq pc pb ph kq kc kb kh qs.length cs.length bs.length hs.length d) rfl rfl rdZ rfl rfl ?_;rintro _ ⟨b,rfl⟩
 cases b with
 | true =>
  refine BE ?_;refine Abf ?_;refine Ab4 ?_
  exact AI (res1 rfl rfl) rsubZ selZ ⟨rfl,false,rfl,fun h=>by simp at h⟩
 | false =>
 refine BE ?_;refine AB ?_;refine AS ?_;refine AS ?_;refine A3 (refCheck53_spec hT d) rfl rfl rdZ rfl rfl ?_;rintro _ rfl;refine Ab2 ?_
 exact AI (res1 rfl rfl) rsubZ selZ ⟨rfl,validT qs cs bs hs d,rfl,fun h=>h⟩
end Go.Proofs.YtjehnjhkcmobcaaGreat
/- Answers compared; demands tested. -/
namespace Go.Proofs.YtjehnjhkcmobcaaGreat
open Go.Eng Go.Step
set_option maxRecDepth 100000
set_option maxHeartbeats 4000000

theorem indexDm_spec (ρ:PH) (Rs:List PH) (v fn:Value) (l:List Dm) (Q:Dm → Prop) (hv:SlE encD 5 ρ v l) (hl:l.length ≤ 9223372036854775807) (hfn:∀ (i:Nat) (x:Dm),l[i]? = some x → Ans Tryz.prog fn [.agg (encD x).toArray] Rs (fun r=>∃ b,r = .bool b ∧ (b = false → Q x))) :
  Ans Tryz.prog (fv 46) [v,fn] (ρ :: Rs) (fun r=>(∃ i:Nat,r = int i) ∨ ((∀ x ∈ l,Q x) ∧ r = int (-1))):=by
 obtain ⟨q,c,rfl,hr⟩:=hv.val encD_len
 refine spec_in (cap:=[]) Tryz.func46 rfl rfl Tryz.ntmps46 rfl envZ (fun N β=>?_)
 refine Acy ?_
 refine BA [0,1,7] (0:Nat) (fun k=>k ≤ l.length ∧ ∀ (i:Nat) (x:Dm),i < k → l[i]? = some x → Q x) (fun k=>[(8,int k)]) (fun _=>[]) (fun k=>l.length - k) pickZ ⟨by omega,fun i x h=>by omega⟩ covZ selZ ?_
 rintro k ⟨hk,hI⟩
 by_cases hlt:k < l.length
 ·have hx:=List.getElem?_eq_getElem hlt
  obtain ⟨b1,o1,rfl,hrd⟩:=hr k _ hx
  have hrd2:RdN ρ b1 (o1 + k * 5) (encD l[k]):=hrd
  have hf:=hfn k _ hx
  refine Ab3 ?_;refine Aa8 ?_;refine Aa1 ?_;refine Abc ?_
  refine A3 hf rfl rfl (fun τ hτ=>.inl (by simp [hτ])) rfl rfl ?_
  rintro _ ⟨b,rfl,hb⟩
  cases b with
  | true =>
   refine Aah ?_;refine Abs ?_;exact AI (res1 rfl rfl) rsubZ selZ ⟨rfl,.inl ⟨k,rfl⟩⟩
  | false =>
   refine Ac5 ?_
   refine AX (k + 1) ⟨by omega,fun i x hi hix=>?_⟩ (by omega) covZ selZ
   by_cases e:i = k
   ·subst e; rw [hx] at hix; injection hix with hix; rw [← hix]; exact hb rfl
   ·exact hI i x (by omega) hix
 ·refine AC ?_
  refine Adz ?_;refine Aak ?_
  refine AI (res1 rfl rfl) rsubZ selZ ⟨rfl,.inr ⟨fun x hx=>?_,rfl⟩⟩
  obtain ⟨i,hi,rfl⟩:=List.getElem_of_mem hx
  exact hI i _ (by omega) (List.getElem?_eq_getElem hi)
theorem contDm_spec (ρ:PH) (Rs:List PH) (v fn:Value) (l:List Dm) (Q:Dm → Prop) (hv:SlE encD 5 ρ v l) (hl:l.length ≤ 9223372036854775807) (hfn:∀ (i:Nat) (x:Dm),l[i]? = some x → Ans Tryz.prog fn [.agg (encD x).toArray] Rs (fun r=>∃ b,r = .bool b ∧ (b = false → Q x))) :
  Ans Tryz.prog (fv 12) [v,fn] (ρ :: Rs) (fun r=>∃ b,r = .bool b ∧ (b = false → ∀ x ∈ l,Q x)):=by
 have hix:=indexDm_spec ρ Rs v fn l Q hv hl hfn
 obtain ⟨q,c,rfl,hr⟩:=hv.val encD_len
 refine spec_in (cap:=[]) Tryz.func12 rfl rfl Tryz.ntmps12 rfl envZ (fun N β=>?_)
 refine Aak ?_;refine Abn ?_
 refine A3 hix rfl rfl (fun τ hτ=>.inl (List.mem_cons_of_mem _ hτ)) rfl rfl ?_
 rintro _ (⟨i,rfl⟩ | ⟨hall2,rfl⟩)
 ·refine CL ?_
  refine Aaa ?_
  exact AI (res1 rfl rfl) rsubZ selZ ⟨rfl,true,rfl,fun h=>by simp at h⟩
 ·refine BL ?_
  refine Aaa ?_
  exact AI (res1 rfl rfl) rsubZ selZ ⟨rfl,false,rfl,fun _=>hall2⟩
set_option maxHeartbeats 16000000 in
theorem notFine_spec {ρ τ σ υ:PH} {pq pc pb ph:Option Addr} {kq kc kb kh:Nat} {qs:List Int} {cs:List Ct} {bs:List Bk} {hs:List Hd} (hT:TbAt ρ τ σ υ pq pc pb ph kq kc kb kh qs cs bs hs) (b3:Nat) (d:Dm) :
  Ans Tryz.prog (.func (.func 22) #[] #[.pointer (some ⟨b3,0,none⟩)]) [.agg (encD d).toArray] [sng b3 (.cells #[.slice pq qs.length kq,.slice pc cs.length kc,.slice pb bs.length kb,.slice ph hs.length kh] 29 (0,0)),ρ,τ,σ,υ] (fun r=>∃ b,r = .bool b ∧ (b = false → validT qs cs bs hs d = true)):=by
 have hf:=fine54_spec hT d
 have ct:=rdB b3 29 [.slice pq qs.length kq,.slice pc cs.length kc,.slice pb bs.length kb,.slice ph hs.length kh]
 refine spec_in (cap:=[.pointer (some ⟨b3,0,none⟩)]) Tryz.func22 rfl rfl Tryz.ntmps22 rfl envZ (fun N β=>?_)
 refine Aa ?_;refine BH (BM rfl) rfl rfl rfl ?_;rintro _ _ ⟨b2,rfl,rfl⟩;refine AT (ρ:=sng b2 _) takeZ ?_
 have cd:=rdB b2 31 [int d.s,int d.d,int d.v,int d.r,int d.e]
 have cd0:=rdC cd 0
 have cd1:=rdC cd 1
 have cd2:=rdC cd 2
 have cd3:=rdC cd 3
 have cd4:=rdC cd 4
 refine Aaa ?_;refine Ace ?_;refine A3 hf rfl rfl rdZ rfl rfl ?_;rintro _ ⟨fb,rfl,hfb⟩
 cases fb with
 | true =>
  refine BE ?_;refine Aaa ?_
  exact AI (res1 rfl rfl) rsubZ selZ ⟨rfl,false,rfl,fun _=>hfb rfl⟩
 | false =>
  refine BE ?_;refine Aaa ?_
  exact AI (res1 rfl rfl) rsubZ selZ ⟨rfl,true,rfl,fun h=>by simp at h⟩
set_option maxHeartbeats 16000000 in
theorem equalAn_spec (ρ1 γ1 ρ2 γ2:PH) (v w:Value) (raw1 raw2:List (Value × Value × Value × Value)) (an:List An) (hv:SlE enc4 4 ρ1 v raw1) (h1:AnsL γ1 raw1 an) (hw:SlE enc4 4 ρ2 w raw2) (h2:AnsL γ2 raw2 an) (hl:an.length ≤ 1000) (hsz:∀ a ∈ an,a.ss.length ≤ 1000000 ∧ a.c.length ≤ 1000000) :
  Ans Tryz.prog (fv 19) [v,w,fv 20] [ρ1,γ1,ρ2,γ2] (fun r=>r = .bool true):=by
 obtain ⟨p1,c1,rfl,hr1⟩:=hv.val enc4_len
 obtain ⟨p2,c2,rfl,hr2⟩:=hw.val enc4_len
 have e1:=h1.1
 have e2:=h2.1
 refine spec_in (cap:=[]) Tryz.func19 rfl rfl Tryz.ntmps19 rfl envZ (fun N β=>?_)
 refine Aak ?_;refine Aeu ?_;refine Abb ?_;refine Abt ?_
 refine BA [1,2,15,16] (0:Nat) (fun k=>k ≤ an.length) (fun k=>[(17,int k)]) (fun _=>[]) (fun k=>an.length - k) pickZ (by omega) covZ selZ ?_
 rintro k hk
 by_cases hlt:k < an.length
 ·have hx:=List.getElem?_eq_getElem hlt
  have hx1:=List.getElem?_eq_getElem (show k < raw1.length by omega)
  have hx2:=List.getElem?_eq_getElem (show k < raw2.length by omega)
  have hA1:=h1.2 k _ _ hx1 hx
  have hA2:=h2.2 k _ _ hx2 hx
  have hs:=hsz _ (List.getElem_mem hlt)
  obtain ⟨b1,o1,rfl,hrd1⟩:=hr1 k _ hx1
  obtain ⟨b2,o2,rfl,hrd2⟩:=hr2 k _ hx2
  generalize raw1[k] = x1 at hx1 hA1 hrd1
  generalize raw2[k] = x2 at hx2 hA2 hrd2
  generalize an[k] = a at hx hA1 hA2 hs
  have hsp:=sameAnswer_spec γ1 γ1 γ1 γ2 γ2 γ2 _ _ a.acc a.vol a.ss a.c hA1 hA2 hs.1 hs.2
  obtain ⟨q1,k1,L1,q2,k2,f1,_⟩:=hA1
  obtain ⟨q3,k3,L2,q4,k4,f2,_⟩:=hA2
  obtain ⟨u1,u2,u3,u4⟩:=x1
  obtain ⟨w1,w2,w3,w4⟩:=x2
  dsimp only at f1 f2 hsp
  simp only [Value.agg.injEq,Array.mk.injEq,List.cons.injEq,and_true] at f1 f2
  obtain ⟨rfl,rfl,rfl,rfl⟩:=f1
  obtain ⟨rfl,rfl,rfl,rfl⟩:=f2
  have g1:RdN ρ1 b1 (o1 + k * 4) [.bool a.acc,int a.vol,.slice q1 a.ss.length k1,.slice q2 L1.length k2]:=hrd1
  have g2:RdN ρ2 b2 (o2 + k * 4) [.bool a.acc,int a.vol,.slice q3 a.ss.length k3,.slice q4 L2.length k4]:=hrd2
  refine Ado ?_;refine AY ?_; rintro _ _ ⟨b,rfl,rfl⟩;refine AD ?_;refine AU ?_; rintro _ _ ⟨rfl,rfl⟩;refine AE ?_;refine Abn ?_;refine Abc ?_;refine AY ?_; rintro _ _ ⟨b,rfl,rfl⟩;refine AU ?_; rintro _ _ ⟨rfl,rfl⟩;refine Adh ?_;refine AS ?_;refine AS ?_;refine A3 hsp rfl rfl rdZ rfl rfl ?_;rintro _ rfl;refine Acb ?_;refine Aa0 ?_
  exact AX (k + 1) (by omega) (by omega) covZ selZ
 ·refine AC ?_
  refine Adz ?_;refine Aak ?_;exact AI (res1 rfl rfl) rsubZ selZ ⟨rfl,rfl⟩
end Go.Proofs.YtjehnjhkcmobcaaGreat
/- What shipments bring. -/
namespace Go.Proofs.YtjehnjhkcmobcaaGreat
open Go.Eng Go.Step
set_option maxRecDepth 100000
set_option maxHeartbeats 4000000

end Go.Proofs.YtjehnjhkcmobcaaGreat
/- Law PlannerSequence. -/
namespace Go.Proofs.YtjehnjhkcmobcaaGreat
open Go.Eng Go.Step
set_option maxRecDepth 100000
set_option maxHeartbeats 4000000

set_option maxHeartbeats 64000000 in
theorem sequence_law {ρ τ σ υ:PH} (δ:PH) {pq pc pb ph:Option Addr} {kq kc kb kh:Nat} {qs:List Int} {cs:List Ct} {bs:List Bk} {hs:List Hd} (hT:TbAt ρ τ σ υ pq pc pb ph kq kc kb kh qs cs bs hs) (pl:Option Addr) (kl:Nat) (l:List Dm) (hv:SlE encD 5 δ (.slice pl l.length kl) l) (hcl:l.length ≤ kl) (hll:l.length ≤ 9223372036854775807) (z:Int) (hz:0 ≤ z ∧ z ≤ 255) :
  Ans Tryz.prog (fv 5) [.agg #[.slice pq qs.length kq,.slice pc cs.length kc,.slice pb bs.length kb,.slice ph hs.length kh],.slice pl l.length kl,.int .u8 z] [ρ,τ,σ,υ,δ] (fun r=>r = .bool true):=by
 obtain ⟨_,_,ee,hrl⟩:=hv.val encD_len
 simp only [Value.slice.injEq] at ee
 obtain ⟨rfl,_,rfl⟩:=ee
 refine spec_in (cap:=[]) Tryz.func5 rfl rfl Tryz.ntmps5 rfl envZ (fun N β=>?_)
 refine Aa ?_;refine BH (BM rfl) rfl rfl rfl ?_;rintro _ _ ⟨b3,rfl,rfl⟩;refine AT (ρ:=sng b3 _) takeZ ?_
 have ct:=rdB b3 29 [.slice pq qs.length kq,.slice pc cs.length kc,.slice pb bs.length kb,.slice ph hs.length kh]
 have ct0:=rdC ct 0
 have ct1:=rdC ct 1
 have ct2:=rdC ct 2
 have ct3:=rdC ct 3
 have ctp:RdP (sng b3 (.cells #[.slice pq qs.length kq,.slice pc cs.length kc,.slice pb bs.length kb,.slice ph hs.length kh] 29 (0,0))) b3 0 [.slice pq qs.length kq,.slice pc cs.length kc]:=rdP_sng (xs:=[.slice pq qs.length kq,.slice pc cs.length kc,.slice pb bs.length kb,.slice ph hs.length kh]) rfl
 by_cases h3:3 < l.length
 ·refine AD ?_
  refine AE ?_;refine Ab ?_;refine CQ ?_;refine Abw ?_;refine Aah ?_;refine Aa ?_;refine A3 awake54_spec rfl rfl rdZ rfl rfl ?_;rintro _ rfl;refine Aaa ?_;exact AI (res1 rfl rfl) rsubZ selZ ⟨rfl,rfl⟩
 refine Aaa ?_;refine Ab ?_;refine B0 ?_;refine Aa1 ?_;refine CA ?_
 refine A3 (contDm_spec δ [sng b3 (.cells #[.slice pq qs.length kq,.slice pc cs.length kc,.slice pb bs.length kb,.slice ph hs.length kh] 29 (0,0)),ρ,τ,σ,υ] _ (.func (.func 22) #[] #[.pointer (some ⟨b3,0,none⟩)]) l (fun d=>validT qs cs bs hs d = true) hv hll (fun _ d _=>notFine_spec hT b3 d)) rfl rfl rdZ rfl rfl ?_
 rintro _ ⟨fb,rfl,hfb⟩
 cases fb with
 | true =>
  refine AJ ?_;refine Aah ?_;refine Aa ?_;refine A3 awake54_spec rfl rfl rdZ rfl rfl ?_;rintro _ rfl;refine Aaa ?_;exact AI (res1 rfl rfl) rsubZ selZ ⟨rfl,rfl⟩
 | false =>
 have hok:=hfb rfl
 have hvk:∀ (b:List Bk) (h:List Hd) (d:Dm),validT qs cs b h d = true → VOk qs cs b h d:=fun _ _ _ h=>vok h
 refine Abh ?_;refine Abp ?_;refine AB ?_
 refine BC (Matrix_spec δ hT _ l hv (by omega)) rfl rfl Takes.nil rdZ rfl rfl ?_
 rintro _ _ ⟨pu,ku,e,raw,an,σu,γ,rfl,rfl,hcu,hU,hA,hM⟩;refine AT (ρ:=σu) takeZ ?_;refine AT (ρ:=γ) takeZ ?_
 obtain ⟨K,hK⟩:∃ K:Nat,(K:Int) = z % ((l.length + 1:Nat):Int):=⟨(z % ((l.length + 1:Nat):Int)).toNat,Int.toNat_of_nonneg (Int.emod_nonneg _ (by omega))⟩
 have hK2:(K:Int) < ((l.length + 1:Nat):Int):=by rw [hK]; exact Int.emod_lt_of_pos _ (by omega)
 refine Ac7 ?_;refine GB ?_;refine Abv ?_;refine A7 ?_;refine zq_rem ?_;refine Abi ?_
 focus ((rw [← hK]))
 refine A8 (.q 0 (.q 1 (.q 2 (.q 3 (.l 4 .e (.q 5 (.q 6 (.q 7 (.q 8 (.q 9 .nil)))))))))) [] rfl (by kernel_rfl) Sel.nil ?_
 refine BQ ?_;refine Aa7 ?_;refine GC ?_
 have hv2:SlE encD 5 δ (.slice (cutP pl kl 0 5) K kl) (l.take K):=slE_hi encD_len hv hcl (by omega)
 have hMs:=Matrix_spec δ hT _ (l.take K) hv2 (by rw [List.length_take]; omega)
 refine B7 (HA rfl hMs rfl rfl rdZ rfl rfl ?_);rintro _ _ ⟨pu2,ku2,e2,raw2,an2,σ2,γ2,rfl,rfl,hcu2,hU2,hA2,hM2⟩;refine AQ ?_;refine DA ?_;refine DA ?_;refine BT ?_;refine Adm ?_;refine AT (ρ:=σ2) takeZ ?_;refine AT (ρ:=γ2) takeZ ?_
 rcases mtx_err hok hvk hM with rfl | rfl
 rotate_left
 ·refine AC ?_
  refine Aad ?_;refine Ab9 ?_;refine Aad ?_;refine CT ?_;refine Abg ?_;refine Aam ?_;refine AN ?_;refine AB ?_;refine A3 awake54_spec rfl rfl rdZ rfl rfl ?_;rintro _ rfl;refine Ab2 ?_;exact AI (res1 rfl rfl) rsubZ selZ ⟨rfl,rfl⟩
 obtain ⟨bz,hz2,hS⟩:∃ b h,MxS qs cs bs hs l an b h:=by
  rcases hM with ⟨_,h⟩ | ⟨h,_⟩
  ·exact h
  ·exact absurd rfl h
 have hlen:=hS.len
 have hraw:=hA.1
 obtain ⟨b',h',hS2⟩:=hS.take K
 obtain ⟨rfl,rfl⟩:=hM2.uniq (.inl ⟨rfl,b',h',hS2⟩)
 have hraw2:=hA2.1
 have hnd:=hS.ticks
 have hfacts:∀ (i:Nat) (a:An),an[i]? = some a → ∃ d,l[i]? = some d ∧ (a.acc = true → a.vol = d.v) ∧ (a.acc = false → a.vol < d.v) ∧ a.ss.length ≤ 500000 ∧ a.c.length ≤ 1000000:=fun i a ha=>by
  have hi:=(List.getElem?_eq_some_iff.1 ha).1
  have hd:=List.getElem?_eq_getElem (show i < l.length by omega)
  obtain ⟨as1,b1,h1,a1,b2,h2,_,v,p,_,g⟩:=hS.at hd
  rw [ha] at g
  obtain rfl:=Option.some.inj g
  obtain ⟨p1,p2⟩:=plan_len (vok v) p
  exact ⟨_,hd,(plan_vol p).1,(plan_vol p).2,p1,p2⟩
 have hcut:SlE enc4 4 σu (.slice (cutP pu ku 0 4) K ku) (raw.take K):=slE_hi enc4_len hU hcu (by omega)
 have hEq:=equalAn_spec σu γ σ2 γ2 _ _ (raw.take K) raw2 (an.take K) hcut (hA.take K) hU2 hA2 (by rw [List.length_take]; omega) (fun a ha=>by
  obtain ⟨i,hi⟩:=List.getElem?_of_mem (List.mem_of_mem_take ha)
  obtain ⟨_,_,_,_,p1,p2⟩:=hfacts i a hi
  exact ⟨by omega,p2⟩)
 obtain ⟨_,_,ee,hru⟩:=hU.val enc4_len
 simp only [Value.slice.injEq] at ee
 obtain ⟨rfl,_,rfl⟩:=ee
 refine Aai ?_;refine Abb ?_;refine Aai ?_;refine BG ?_;refine Aa1 ?_;refine AV ?_;refine Abv ?_;refine BG ?_;refine AJ ?_;refine Adg ?_;refine D0 ?_;refine AB ?_;refine A3 hEq rfl rfl rdZ rfl rfl ?_;rintro _ rfl;refine BE ?_;refine Abh ?_;refine Aa ?_
 focus ((refine' BH _ rfl rfl rfl _; rotate_left; (exact DV); rintro _ _ ⟨b,rfl,rfl⟩))
 refine Ad5 ?_
 revert b; intro bm
 refine BA [1,12,80,81] (X:=Nat × List (List Int × Value)) (0,[]) (fun x=>x.1 ≤ an.length ∧ (∀ e ∈ x.2,e.1.length = 3) ∧ ∀ y:Int × Int,mgetS [y.1,y.2,0] x.2 = if y ∈ ticksA (an.take x.1) then some (.bool true) else none) (fun x=>[(82,int x.1)]) (fun x=>[sng bm (mapS x.2)]) (fun x=>an.length - x.1) pickZ ⟨by dsimp only; omega,by simp,fun y=>rfl⟩ covZ selZ ?_
 rintro ⟨i,M⟩ ⟨hi,hM3,hMg⟩
 dsimp only at hi hM3 hMg ⊢
 by_cases hlt:i < an.length
 rotate_left
 ·refine AC ?_
  refine Adz ?_;refine Aa ?_;refine A3 awake54_spec rfl rfl rdZ rfl rfl ?_;rintro _ rfl;refine Aaa ?_;exact AI (res1 rfl rfl) rsubZ selZ ⟨rfl,rfl⟩
 have hx:=List.getElem?_eq_getElem hlt
 have hxr:=List.getElem?_eq_getElem (show i < raw.length by omega)
 have hAi:=hA.2 i _ _ hxr hx
 obtain ⟨d,hd,hva,hvr,hsl,_⟩:=hfacts i _ hx
 have hnew:=fun (j:Nat) (x:Sh) (h:an[i].ss[j]? = some x)=>ticks_new hnd hx h
 have hnxt:=ticks_next hx
 obtain ⟨b85,o85,rfl,hrd85⟩:=hru i _ hxr
 obtain ⟨b94,o94,rfl,hrd94⟩:=hrl i _ hd
 have hg94:RdN δ b94 (o94 + i * 5) [int d.s,int d.d,int d.v,int d.r,int d.e]:=hrd94
 have hg942:rdc δ b94 (o94 + i * 5 + 2) = some (int d.v):=hg94 2 _ rfl
 generalize raw[i] = x at hxr hAi hrd85
 generalize an[i] = a at hx hAi hva hvr hsl hnew hnxt
 obtain ⟨acc,vol,ss,c⟩:=a
 dsimp only at hva hvr hsl hnew hnxt
 obtain ⟨q1,k1,L1,q2,k2,f1,hSs,_,_⟩:=hAi
 obtain ⟨u1,u2,u3,u4⟩:=x
 dsimp only at f1
 simp only [Value.agg.injEq,Array.mk.injEq,List.cons.injEq,and_true] at f1
 obtain ⟨rfl,rfl,rfl,rfl⟩:=f1
 have g85:RdN σu b85 (o85 + i * 4) [.bool acc,int vol,.slice q1 ss.length k1,.slice q2 L1.length k2]:=hrd85
 have hrs:=rowN encX_len hSs
 refine Ado ?_;refine AY ?_; rintro _ _ ⟨b,rfl,rfl⟩;refine AD ?_;refine AU ?_; rintro _ _ ⟨rfl,rfl⟩;refine Aal ?_;refine AC ?_
 revert b; intro b14
 refine D4 (X:=Unit) [1,12,14,80,81,82] (fun _=>True) (fun _=>[(113,.bool false)]) (fun _=>[sng b14 (.cells #[.bool acc,int vol,.slice q1 ss.length k1,.slice q2 L1.length k2] 42 (0,0)),sng bm (mapS M)]) pickZ ?_ ?_
 ·cases acc with
  | true =>
   have hve:=hva rfl
   subst hve
   refine A8 (.q 0 (.q 1 (.q 2 (.q 3 (.q 4 (.q 5 (.q 6 (.q 7 (.q 8 (.q 9 (.q 10 (.q 11 (.q 12 (.q 13 (.q 14 (.q 15 (.q 16 (.q 17 (.q 18 (.q 19 (.q 20 (.q 21 (.q 22 (.q 23 (.q 24 (.q 25 (.q 26 .nil))))))))))))))))))))))))))) [] rfl (by kernel_rfl) Sel.nil ?_
   refine Aar ?_;refine Acx ?_;refine Acu ?_;refine Ab8 ?_;refine zd_neF ?_;refine BV ?_;refine Acx ?_;refine CV ?_;refine Adq ?_;refine BZ ?_;refine BZ ?_;refine A5 ?_;exact BW () trivial covZ selZ
  | false =>
   have hvl:=hvr rfl
   refine A8 (.q 0 (.q 1 (.q 2 (.q 3 (.q 4 (.q 5 (.q 6 (.q 7 (.q 8 (.q 9 (.q 10 (.q 11 (.q 12 (.q 13 (.q 14 (.q 15 (.q 16 (.q 17 (.q 18 (.q 19 (.q 20 (.q 21 (.q 22 (.q 23 (.q 24 (.q 25 (.q 26 .nil))))))))))))))))))))))))))) [] rfl (by kernel_rfl) Sel.nil ?_
   refine Aar ?_;refine Adq ?_;refine BZ ?_;refine Acx ?_;refine CV ?_;refine Acx ?_;refine Acu ?_;refine Ab8 ?_;refine GN ?_;refine BV ?_;refine BZ ?_;refine A5 ?_;exact BW () trivial covZ selZ
 rintro _ _
 try dsimp only
 refine Aae ?_;refine Aao ?_;refine Ada ?_
 refine BA [1,12,14,80,81,82,115,116] (X:=Nat × List (List Int × Value)) (0,M) (fun x=>x.1 ≤ ss.length ∧ (∀ e ∈ x.2,e.1.length = 3) ∧ ∀ y:Int × Int,mgetS [y.1,y.2,0] x.2 = if y ∈ ticksA (an.take i) ++ (ticksS ss).take x.1 then some (.bool true) else none) (fun x=>[(117,int x.1)]) (fun x=>[sng b14 (.cells #[.bool acc,int vol,.slice q1 ss.length k1,.slice q2 L1.length k2] 42 (0,0)),sng bm (mapS x.2)]) (fun x=>ss.length - x.1) pickZ ⟨by dsimp only; omega,hM3,fun y=>by dsimp only; rw [List.take_zero,List.append_nil]; exact hMg y⟩ covZ selZ ?_
 rintro ⟨j,M1⟩ ⟨hj,hM4,hMh⟩
 dsimp only at hj hM4 hMh ⊢
 by_cases hjl:j < ss.length
 rotate_left
 ·have hje:(ticksS ss).take j = ticksS ss:=List.take_of_length_le (by unfold ticksS; rw [List.length_map]; omega)
  rw [hje,← hnxt] at hMh;refine Abl ?_;refine Aa0 ?_
  exact AX (i + 1,M1) ⟨by dsimp only; omega,hM4,hMh⟩ (by dsimp only; omega) covZ selZ
 have hs:=List.getElem?_eq_getElem hjl
 have hnw:=hnew j _ hs
 have htk:(ticksS ss).take (j + 1) = (ticksS ss).take j ++ [(ss[j].c,ss[j].t)]:=by
  obtain ⟨h1,h2⟩:=List.getElem?_eq_some_iff.1 (ticks_at hs)
  rw [List.take_succ_eq_append_getElem h1,h2]
 obtain ⟨b19,o19,rfl,hrd19,_⟩:=shRow hrs hs
 generalize ss[j] = x at hs hnw htk hrd19
 obtain ⟨xc,xt,xn⟩:=x
 dsimp only at hnw htk hrd19
 have hMx:=hMh (xc,xt)
 rw [if_neg hnw] at hMx
 dsimp only at hMx
 refine Ab1 ?_;refine AY ?_; rintro _ _ ⟨b,rfl,rfl⟩;refine AU ?_; rintro _ _ ⟨rfl,rfl⟩;refine AE ?_;refine Aci ?_;refine BF ?_; rintro _ _ ⟨rfl,rfl⟩;refine AE ?_;refine Aai ?_;refine AS ?_
 revert b; intro b16
 skip
 refine CH (EC 3 [xc,xt,0] (l:=M1) (z:=.bool false) rfl rfl rfl ⟨by kernel_rfl,by kernel_rfl⟩ rfl hM4 rfl (mapAtS_own memZ)) rfl rfl rfl ?_
 rw [hMx,Option.getD_none];refine Aaj ?_;refine AA ?_;refine AB ?_;refine AS ?_
 refine B5 (DG 3 [xc,xt,0] (v:=.bool true) (l:=M1) rfl rfl rfl rfl ⟨by kernel_rfl,by kernel_rfl⟩ rfl hM4 takeZ) rfl rfl ?_
 rintro _ _ ⟨rfl,rfl⟩;refine Adj ?_
 refine AX (j + 1,_) ⟨by dsimp only; omega,msetS_len rfl hM4,fun y=>?_⟩ (by dsimp only; omega) covZ selZ
 dsimp only
 rw [mgetS_mset,hMh y,htk,← List.append_assoc]
 by_cases ey:y = (xc,xt)
 ·subst ey
  rw [if_pos rfl,if_pos (List.mem_append.2 (.inr (List.mem_cons_self ..)))]
 ·have ek:¬ [y.1,y.2,0] = [xc,xt,0]:=fun h=>ey (by
   simp only [List.cons.injEq,and_true] at h
   exact Prod.ext h.1 h.2)
  rw [if_neg ek]
  by_cases hm:y ∈ ticksA (an.take i) ++ (ticksS ss).take j
  ·rw [if_pos hm,if_pos (List.mem_append.2 (.inl hm))]
  ·rw [if_neg hm,if_neg (fun h=>by
    rcases List.mem_append.1 h with h | h
    ·exact hm h
    ·exact ey (by simpa using h))]
end Go.Proofs.YtjehnjhkcmobcaaGreat
/- The rows: each law, for every input. -/
namespace Go.Proofs.YtjehnjhkcmobcaaGreat
open Go.Eng Go.Step
set_option maxRecDepth 100000
set_option maxHeartbeats 4000000
open Go.ChangeShapes Go.WideShapes Go.ChangeAt Go.RowKit

theorem dm_of {W:World} {x:List Value} (h:RdT Tryz.prog W 31 x):∃ a:Dm,x = encD a ∧ True:=by
 obtain ⟨h1,_⟩:=h.struct Tryz.underlying31
 have hc:Tryz.prog.cellsOf 31 = 5:=by kernel_rfl
 rw [hc] at h1
 match x,h1 with
 | [c0,c1,c2,c3,c4],_ =>
  have k:Tryz.prog.cellsOf 3 = 1:=by kernel_rfl
  obtain ⟨x0,e0,_⟩:=(h.fld1 Tryz.underlying31 0 rfl rfl rfl k rfl).i64 Tryz.underlying3
  obtain ⟨x1,e1,_⟩:=(h.fld1 Tryz.underlying31 1 rfl rfl rfl k rfl).i64 Tryz.underlying3
  obtain ⟨x2,e2,_⟩:=(h.fld1 Tryz.underlying31 2 rfl rfl rfl k rfl).i64 Tryz.underlying3
  obtain ⟨x3,e3,_⟩:=(h.fld1 Tryz.underlying31 3 rfl rfl rfl k rfl).i64 Tryz.underlying3
  obtain ⟨x4,e4,_⟩:=(h.fld1 Tryz.underlying31 4 rfl rfl rfl k rfl).i64 Tryz.underlying3
  simp at e0 e1 e2 e3 e4
  subst e0 e1 e2 e3 e4;exact ⟨⟨x0,x1,x2,x3,x4⟩,rfl,trivial⟩
theorem dms_of {W:World} {r:Reach} {base:Nat} {v0:Value} (hv:Value.okWide Tryz.prog W r base 49 v0) (h:RdT Tryz.prog W 49 v0.cells.toList):∃ l:List Dm,SlE encD 5 (heapPH W) v0 l ∧ CapOK v0 ∧ l.length ≤ 9223372036854775807:=by
 obtain ⟨a,len,cap,rfl⟩:=okWide_slice Tryz.underlying49 hv
 have h':RdT Tryz.prog W 49 [Value.slice a len cap]:=h
 obtain ⟨v,e,l,h1,h2,h3⟩:=h'.sliceE Tryz.underlying49 (s:=5) (by kernel_rfl) (by omega) (fun x hx=>dm_of hx)
 simp only [List.cons.injEq,and_true] at e;subst e
 exact ⟨l,h1,h'.capOK Tryz.underlying49,by simp only [maxLen] at h3; omega⟩
set_option maxRecDepth 100000 in
theorem plannerSequence_lifted (os:Os) (started:os.Started) (H:Type) (enc:TypeId × Value → H) :
  ReturnsInHanded {} Tryz.checked os 5 .any (Rows.plannerSequenceSpec.pre6 enc Tryz.prog Tryz.f5 Rows.plannerSequenceRow.domain false) (Rows.plannerSequenceSpec.post enc Tryz.prog Tryz.f5 false true false false):=by
 refine returnsInHanded_of_change (C:=Tryz.checked) Tryz.own started (by kernel_rfl) Tryz.func5
  (ChangeSpec.witness6 (enc:=enc) (C:=Tryz.checked) false ⟨#[],#[.agg #[.slice none 0 0,.slice none 0 0,.slice none 0 0,.slice none 0 0],.slice none 0 0,.int .u8 0],[]⟩ 8 (by kernel_rfl) (by kernel_rfl) (by kernel_rfl) (by kernel_rfl)) ?_
 intro W base args ds gs before hval0 hW hcnd _
 have hval:∀ (j:Nat) t v,Tryz.f5.params[j]? = some t → args[j]? = some v → Value.okWide Tryz.prog W .any base t v:=hval0
 have hW':=hW
 obtain ⟨p,q,hA0,hV,rfl,hfz,hnd⟩:=hW
 have hA:DataW.TrodAll enc Tryz.prog W 0 (fun _=>true) true Tryz.f5.params.toList args.toList ds p:=hA0
 rw [Tryz.params5] at hA hval
 obtain ⟨v0,vs0,d0,ds0,p0,q0,hargs,rfl,rfl,h0,r0⟩:=trodAll_cons hA
 obtain ⟨v1,vs1,d1,ds1,p1,q1,rfl,rfl,rfl,h1,r1⟩:=trodAll_cons r0
 obtain ⟨v2,vs2,d2,ds2,p2,q2,rfl,rfl,rfl,h2,r2⟩:=trodAll_cons r1
 obtain ⟨rfl,rfl,rfl⟩:=trodAll_nil r2
 obtain rfl:args = #[v0,v1,v2]:=by cases args; simp_all
 obtain ⟨rfl,rfl⟩:=trodVars_none hV
 have lt0:∀ x ∈ p0,x.block < W.heap.size:=by obtain ⟨m,hm⟩:=h0; exact DataW.trod_lt m _ _ _ hm
 have lt1:∀ x ∈ p1,x.block < W.heap.size:=by obtain ⟨m,hm⟩:=h1; exact DataW.trod_lt m _ _ _ hm
 have lt2:∀ x ∈ p2,x.block < W.heap.size:=by obtain ⟨m,hm⟩:=h2; exact DataW.trod_lt m _ _ _ hm
 have hlaw:Ans Tryz.prog (fv 5) [v0,v1,v2] [heapPH W] (fun v=>v = .bool true):=by
  obtain ⟨pq,pc,pb,ph,kq,kc,kb,kh,qs,cs,bs,hs,rfl,hT⟩:=tables_of (hval 0 _ v0 rfl rfl) (RdT.of h0)
  obtain ⟨l,hl,cl,ll⟩:=dms_of (hval 1 _ v1 rfl rfl) (RdT.of h1)
  obtain ⟨pl,kl,rfl,_⟩:=hl.val encD_len
  obtain ⟨z,rfl,_,_,wz⟩:=open_int Tryz.underlying5 (hval 2 _ v2 rfl rfl) h2
  exact (sequence_law _ hT pl kl l hl cl.le ll z (wf_u8 wz)).rsub (fun _ h=>by simpa using h)
 refine (law_calls Tryz.func5 rfl rfl hlaw).mono fun e W' ⟨he,bel⟩=>?_
 subst he
 exact ⟨_,rfl,_,_,_,[],_,[],hW',trodAll_mk1 (shut_bool Tryz.underlying4 _),(trodAll_cons_mk (Below.trod Tryz.laidOut (by kernel_rfl) (of_decide_eq_true (by kernel_rfl)) h0 bel lt0) (trodAll_cons_mk (Below.trod Tryz.laidOut (by kernel_rfl) (of_decide_eq_true (by kernel_rfl)) h1 bel lt1) (trodAll_cons_mk (Below.trod Tryz.laidOut (by kernel_rfl) (of_decide_eq_true (by kernel_rfl)) h2 bel lt2) trodAll_mk0))),rfl,bel.frame _,fun h=>by cases h⟩
theorem plannerSequence_holds:Rows.PlannerSequenceSaid:=
 OpenClaim.holds_of_wide 5 Tryz.f5 rfl rfl rfl rfl rfl rfl rfl ⟨rfl,rfl,rfl,rfl,rfl⟩ rfl rfl rfl rfl rfl (by kernel_rfl) Tryz.func5 (by kernel_rfl)
  (of_decide_eq_true (by kernel_rfl)) (by unfold Func.isWrapper; first | (rw [if_pos (by decide +kernel)]; kernel_rfl) | (rw [if_neg (by decide +kernel)]; exact ⟨rfl,rfl⟩))
  (fun os started H enc _=>plannerSequence_lifted os started H enc)
end Go.Proofs.YtjehnjhkcmobcaaGreat
