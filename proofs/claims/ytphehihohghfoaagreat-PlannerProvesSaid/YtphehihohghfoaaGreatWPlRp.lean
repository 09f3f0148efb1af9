/- Texts of this proof, one after the other; no conditions. -/
import Derived.Test.YtphehihohghfoaaGreatWB11
import Derived.Test.YtphehihohghfoaaGreatWB2
import Derived.Test.YtphehihohghfoaaGreatWB4
import Derived.Test.YtphehihohghfoaaGreatWB7
import Derived.Test.YtphehihohghfoaaGreatWB8
import Derived.Test.YtphehihohghfoaaGreatWB3
import Derived.Test.YtphehihohghfoaaGreatWB5
set_option linter.all false
/- Curves. -/
namespace Go.Proofs.YtphehihohghfoaaGreat
open Go.Eng Go.Step
set_option maxRecDepth 100000
set_option maxHeartbeats 4000000

set_option maxHeartbeats 32000000 in
theorem Curve_spec {ρ τ σ υ:PH} {pq pc pb ph:Option Addr} {kq kc kb kh:Nat} {qs:List Int} {cs:List Ct} {bs:List Bk} {hs:List Hd} (hT:TbAt ρ τ σ υ pq pc pb ph kq kc kb kh qs cs bs hs) (d:Dm):Makes Tryz.prog (fv 13) [.agg #[.slice pq qs.length kq,.slice pc cs.length kc,.slice pb bs.length kb,.slice ph hs.length kh],.agg #[int d.s,int d.d,int d.v,int d.r,int d.e]] [ρ,τ,σ,υ] (fun r χ=>∃ u,r = .tuple #[u,int (if validT qs cs bs hs d = true then 0 else 1)] ∧ OwnS 50 2 u (if validT qs cs bs hs d = true then curveK qs cs bs hs d (d.e - d.r).toNat else []).length ((if validT qs cs bs hs d = true then curveK qs cs bs hs d (d.e - d.r).toNat else []).flatMap encV) χ ∧ (validT qs cs bs hs d = true → ∀ j,j < (d.e - d.r).toNat → ∃ F m,MaxN qs cs bs hs (atE d (d.r + ((j + 1:Nat):Int))) F m 0)):=by
 refine spec_in (cap:=[]) Tryz.func13 rfl rfl Tryz.ntmps13 rfl envZ (fun N β=>?_)
 refine AC ?_;refine AA ?_;refine BH (BK rfl) rfl rfl rfl ?_;rintro _ _ ⟨b1,rfl,rfl⟩;refine AR (ρ:=sng b1 _) takeZ ?_
 have ct:RdN (sng b1 (.cells #[.slice pq qs.length kq,.slice pc cs.length kc,.slice pb bs.length kb,.slice ph hs.length kh] 29 (0,0))) b1 0 [.slice pq qs.length kq,.slice pc cs.length kc,.slice pb bs.length kb,.slice ph hs.length kh]:=rdN_sng (vs:=[.slice pq qs.length kq,.slice pc cs.length kc,.slice pb bs.length kb,.slice ph hs.length kh])
 have ct0:rdc (sng b1 (.cells #[.slice pq qs.length kq,.slice pc cs.length kc,.slice pb bs.length kb,.slice ph hs.length kh] 29 (0,0))) b1 0 = some (.slice pq qs.length kq):=by rw [rdc_sng]; rfl
 have ct1:rdc (sng b1 (.cells #[.slice pq qs.length kq,.slice pc cs.length kc,.slice pb bs.length kb,.slice ph hs.length kh] 29 (0,0))) b1 1 = some (.slice pc cs.length kc):=by rw [rdc_sng]; rfl
 have ct2:rdc (sng b1 (.cells #[.slice pq qs.length kq,.slice pc cs.length kc,.slice pb bs.length kb,.slice ph hs.length kh] 29 (0,0))) b1 2 = some (.slice pb bs.length kb):=by rw [rdc_sng]; rfl
 have ct3:rdc (sng b1 (.cells #[.slice pq qs.length kq,.slice pc cs.length kc,.slice pb bs.length kb,.slice ph hs.length kh] 29 (0,0))) b1 3 = some (.slice ph hs.length kh):=by rw [rdc_sng]; rfl
 have ctp:RdP (sng b1 (.cells #[.slice pq qs.length kq,.slice pc cs.length kc,.slice pb bs.length kb,.slice ph hs.length kh] 29 (0,0))) b1 0 [.slice pq qs.length kq,.slice pc cs.length kc]:=rdP_sng (xs:=[.slice pq qs.length kq,.slice pc cs.length kc,.slice pb bs.length kb,.slice ph hs.length kh]) rfl
 refine BH (BK rfl) rfl rfl rfl ?_;rintro _ _ ⟨b2,rfl,rfl⟩;refine AR (ρ:=sng b2 _) takeZ ?_
 have cd:RdN (sng b2 (.cells #[int d.s,int d.d,int d.v,int d.r,int d.e] 31 (0,0))) b2 0 [int d.s,int d.d,int d.v,int d.r,int d.e]:=rdN_sng (vs:=[int d.s,int d.d,int d.v,int d.r,int d.e])
 have cd0:rdc (sng b2 (.cells #[int d.s,int d.d,int d.v,int d.r,int d.e] 31 (0,0))) b2 0 = some (int d.s):=by rw [rdc_sng]; rfl
 have cd1:rdc (sng b2 (.cells #[int d.s,int d.d,int d.v,int d.r,int d.e] 31 (0,0))) b2 1 = some (int d.d):=by rw [rdc_sng]; rfl
 have cd2:rdc (sng b2 (.cells #[int d.s,int d.d,int d.v,int d.r,int d.e] 31 (0,0))) b2 2 = some (int d.v):=by rw [rdc_sng]; rfl
 have cd3:rdc (sng b2 (.cells #[int d.s,int d.d,int d.v,int d.r,int d.e] 31 (0,0))) b2 3 = some (int d.r):=by rw [rdc_sng]; rfl
 have cd4:rdc (sng b2 (.cells #[int d.s,int d.d,int d.v,int d.r,int d.e] 31 (0,0))) b2 4 = some (int d.e):=by rw [rdc_sng]; rfl
 refine BX ?_;refine AD ?_;refine AD ?_;refine AE ?_;refine AC ?_;refine AC ?_;refine AA ?_;refine AT ?_;refine AT ?_;refine BZ (Graph_spec hT d) rfl rfl rdZ rfl rfl ?_;rintro _ σg hg
 by_cases hv:validT qs cs bs hs d = true
 rotate_left
 ·rw [if_neg hv] at hg
  obtain ⟨rfl,rfl⟩:=hg
  rw [if_neg hv,if_neg hv];refine AB ?_;refine AO ?_;refine AO ?_;refine AX ?_; rintro _ _ ⟨b,rfl,rfl⟩;refine AV ?_; rintro _ _ ⟨rfl,rfl⟩;refine AD ?_;refine AE ?_;refine AC ?_;refine AA ?_;refine AB ?_;refine CF ?_;refine AE ?_;refine AN rfl ?_;refine AC ?_;refine AA ?_;refine AD ?_;refine AD ?_;refine AE ?_
  exact AI (res2 rfl rfl rfl) rsubZ selZ ⟨emp,⟨_,rfl,OwnS.nil _ _,fun hh=>absurd hh hv⟩,rfl⟩
 rw [if_pos hv] at hg
 obtain ⟨ug,rfl,hOg⟩:=hg
 obtain ⟨pg,kg,rfl⟩:=hOg.form
 rw [if_pos hv,if_pos hv]
 have h:=vok hv
 have hdm:=h.dm
 unfold okDm at hdm;refine AB ?_;refine AO ?_;refine AO ?_;refine AX ?_; rintro _ _ ⟨b,rfl,rfl⟩;refine AV ?_; rintro _ _ ⟨rfl,rfl⟩;refine AD ?_;refine AE ?_;refine AC ?_;refine AA ?_;refine AB ?_;refine BF ?_;refine AE ?_;refine AM rfl ?_;refine AK ?_;refine AC ?_;refine AA ?_;refine AD ?_;refine AE ?_;refine AC ?_;refine AA ?_;refine AD ?_;refine AE ?_;refine AC ?_;refine AC ?_;refine AA ?_;refine AG ?_;refine AF ?_;refine CK ?_;refine AD ?_;refine AE ?_;refine AP ?_
 refine BA [2,3] (X:=Nat × Value × PH) (0,.slice none 0 0,emp) (fun z=>z.1 ≤ (d.e - d.r).toNat ∧ (∀ j,j < z.1 → ∃ F m,MaxN qs cs bs hs (atE d (d.r + ((j + 1:Nat):Int))) F m 0) ∧ OwnS 50 2 z.2.1 (curveK qs cs bs hs d z.1).length ((curveK qs cs bs hs d z.1).flatMap encV) z.2.2) (fun z=>[(10,int (d.r + (z.1 + 1:Nat))),(9,int (mostK qs cs bs hs d z.1)),(8,z.2.1)]) (fun z=>[z.2.2]) (fun z=>(d.e - d.r).toNat - z.1) pickZ ⟨by dsimp only; omega,fun j hj=>by dsimp only at hj; omega,OwnS.nil _ _⟩ covZ selZ ?_
 rintro ⟨k,u,σo⟩ ⟨hk,hex,hO⟩
 dsimp only at hk hex hO ⊢
 by_cases hlt:k < (d.e - d.r).toNat
 rotate_left
 ·have hke:k = (d.e - d.r).toNat:=by omega
  subst hke;refine AC ?_;refine AC ?_;refine AA ?_;refine AB ?_;refine AG ?_;refine AF ?_;refine CN ?_;refine AE ?_;refine AM rfl ?_;refine A7 rfl ?_;refine AC ?_;refine AA ?_;refine AB ?_;refine AD ?_;refine AD ?_;refine AE ?_
  exact AI (res2 rfl rfl rfl) rsubZ selZ ⟨σo,⟨u,rfl,hO,fun _=>hex⟩,rfl⟩
 have hv2:validT qs cs bs hs ⟨d.s,d.d,d.v,d.r,d.r + (k + 1:Nat)⟩ = true:=valid_at hv (by omega)
 have hM:=Most_spec hT ⟨d.s,d.d,d.v,d.r,d.r + (k + 1:Nat)⟩
 have hcl:=curveK_len qs cs bs hs d k
 have hcn:curveK qs cs bs hs d (k + 1) = curveK qs cs bs hs d k ++ (if mostK qs cs bs hs d (k + 1) ≠ mostK qs cs bs hs d k then [⟨d.r + (k + 1:Nat),mostK qs cs bs hs d (k + 1)⟩] else []):=rfl
 have hnx:d.r + ((k + 1:Nat):Int) + 1 = d.r + (((k + 1) + 1:Nat):Int):=by omega
 refine AC ?_;refine AC ?_;refine AA ?_;refine AB ?_;refine AG ?_;refine AF ?_;refine CJ ?_;refine AE ?_;refine AN rfl ?_;refine AK ?_;refine AC ?_;refine AP ?_;refine AC ?_;refine AA ?_;refine AT ?_;refine AX ?_; rintro _ _ ⟨b,rfl,rfl⟩;refine AV ?_; rintro _ _ ⟨rfl,rfl⟩;refine AE ?_;refine AC ?_;refine AA ?_;refine AB ?_;refine AG ?_;refine BD ?_; rintro _ _ ⟨rfl,rfl⟩;refine AE ?_;refine AC ?_;refine AA ?_;refine AT ?_;refine AT ?_
 revert b; intro bd
 refine A2 hM rfl rfl rdZ rfl rfl ?_;rintro _ (⟨_,F,m,hm,rfl⟩ | ⟨hv3,rfl⟩)
 rotate_left
 ·rw [hv2] at hv3; simp at hv3
 have hex2:∀ j,j < k + 1 → ∃ F m,MaxN qs cs bs hs (atE d (d.r + ((j + 1:Nat):Int))) F m 0:=fun j hj=>by
  by_cases hjk:j < k
  ·exact hex j hjk
  ·have:j = k:=by omega
   subst this;exact ⟨F,m,hm⟩
 have hmk:mostK qs cs bs hs d (k + 1) = m:=mostK_eq hm
 rw [hmk] at hcn
 generalize mostK qs cs bs hs d k = M0 at hcn
 generalize curveK qs cs bs hs d k = C0 at hO hcl hcn
 by_cases hc:m = M0
 ·rw [if_neg (fun hh=>hh hc),List.append_nil] at hcn
  refine AB ?_;refine AO ?_;refine AO ?_;refine AD ?_;refine AD ?_;refine AE ?_;refine AC ?_;refine AC ?_;refine AA ?_;refine AB ?_;refine BF ?_;refine AE ?_;refine AM rfl ?_;refine AK ?_;refine AC ?_;refine AA ?_;refine AB ?_;refine AB ?_;refine BF ?_;refine AE ?_;refine AM rfl ?_;refine AK ?_;refine A3 ?_;refine AA ?_;refine AB ?_;refine CK ?_;refine AD ?_;refine AE ?_
  refine AY (k + 1,u,σo) ⟨by dsimp only; omega,hex2,by dsimp only; rw [hcn]; exact hO⟩ (by dsimp only; omega) ?_ selZ
  dsimp only
  rw [hmk,← hnx,hc];exact covZ
 ·rw [if_pos hc] at hcn
  refine AB ?_;refine AO ?_;refine AO ?_;refine AD ?_;refine AD ?_;refine AE ?_;refine AC ?_;refine AC ?_;refine AA ?_;refine AB ?_;refine BF ?_;refine AE ?_;refine AM rfl ?_;refine AK ?_;refine AC ?_;refine AA ?_;refine AB ?_;refine AB ?_;refine CF ?_;refine AE ?_;refine AN rfl ?_;refine AC ?_;refine AA ?_;refine AB ?_;refine AB ?_;refine AB ?_;refine BO ?_;refine BI ?_; rintro _ _ ⟨b,rfl,rfl⟩
  refine BH (B5 (by_:=16) (s:=2) (news:=[int (d.r + ((k + 1:Nat):Int)),int m]) rfl rfl rfl rfl rfl rfl rfl hO takeZ (cells_own memZ) rfl (by (repeat (first | exact (fun v hv=>absurd hv List.not_mem_nil) | (refine List.forall_mem_cons.2 ⟨?_,?_⟩; (focus (first | exact rfl | assumption))))); first | done | fail) (by omega) (by simp only [maxLen]; omega) (by omega)) rfl rfl rfl ?_
  rintro u1 _ ⟨σ1,hO1,rfl⟩;refine AD ?_;refine AE ?_;refine AA ?_;refine AB ?_;refine AD ?_;refine AE ?_;refine A3 ?_;refine AA ?_;refine AB ?_;refine CK ?_;refine AD ?_;refine AE ?_
  refine AY (k + 1,u1,σ1) ⟨by dsimp only; omega,hex2,?_⟩ (by dsimp only; omega) ?_ selZ
  ·dsimp only
   rw [hcn,List.length_append,List.flatMap_append];exact hO1
  ·dsimp only
   rw [hmk,← hnx];exact covZ
end Go.Proofs.YtphehihohghfoaaGreat
/- Profiles and peaks, of the program and of the reference. -/
namespace Go.Proofs.YtphehihohghfoaaGreat
open Go.Eng Go.Step
set_option maxRecDepth 100000
set_option maxHeartbeats 4000000

end Go.Proofs.YtphehihohghfoaaGreat
/- Where a node can store more, of the program. -/
namespace Go.Proofs.YtphehihohghfoaaGreat
open Go.Eng Go.Step
set_option maxRecDepth 100000
set_option maxHeartbeats 4000000

end Go.Proofs.YtphehihohghfoaaGreat
/- Where a node can store more, of the program: Free. -/
namespace Go.Proofs.YtphehihohghfoaaGreat
open Go.Eng Go.Step
set_option maxRecDepth 100000
set_option maxHeartbeats 4000000

end Go.Proofs.YtphehihohghfoaaGreat
/- Where a node can store more, of the reference. -/
namespace Go.Proofs.YtphehihohghfoaaGreat
open Go.Eng Go.Step
set_option maxRecDepth 100000
set_option maxHeartbeats 4000000

end Go.Proofs.YtphehihohghfoaaGreat
/- Free spans, of the reference; lists compared. -/
namespace Go.Proofs.YtphehihohghfoaaGreat
open Go.Eng Go.Step
set_option maxRecDepth 100000
set_option maxHeartbeats 4000000

theorem equalV_spec (ρ τ:PH) (v w:Value) (l m:List Lv) (hv:LvAt ρ v l) (hw:LvAt τ w m) (hl:l.length ≤ 9223372036854775807) :
  Ans Tryz.prog (fv 16) [v,w] [ρ,τ] (fun r=>r = .bool (decide (l = m))):=by
 obtain ⟨q,c,rfl,hr⟩:=hv.val encV_len
 obtain ⟨q',c',rfl,hr'⟩:=hw.val encV_len
 refine spec_in (cap:=[]) Tryz.func16 rfl rfl Tryz.ntmps16 rfl envZ (fun N β=>?_)
 by_cases hlen:l.length = m.length
 rotate_left
 ·refine AC ?_
  refine AA ?_;refine AD ?_;refine AE ?_;refine AC ?_;refine AC ?_;refine AA ?_;refine AB ?_;refine AW ?_;refine AB ?_;refine AW ?_;refine CF ?_;refine AE ?_;refine AN rfl ?_;refine AC ?_;refine AA ?_;refine AD ?_;refine AE ?_
  exact AI (res1 rfl rfl) rsubZ selZ ⟨rfl,by rw [decide_eq_false (fun h=>hlen (by rw [h]))]⟩
 refine AC ?_;refine AA ?_;refine AD ?_;refine AE ?_;refine AC ?_;refine AC ?_;refine AA ?_;refine AB ?_;refine AW ?_;refine AB ?_;refine AW ?_;refine BF ?_;refine AE ?_;refine AM rfl ?_;refine AK ?_;refine AC ?_;refine AC ?_;refine AA ?_;refine AB ?_;refine AW ?_;refine AB ?_;refine AE ?_;refine AP ?_
 refine BA [0,1,12] (0:Nat) (fun k=>k ≤ l.length ∧ l.take k = m.take k) (fun k=>[(13,int k)]) (fun _=>[]) (fun k=>l.length - k) pickZ ⟨by omega,by simp⟩ covZ selZ ?_
 rintro k ⟨hk,hI⟩
 by_cases hlt:k < l.length
 ·have hx:=List.getElem?_eq_getElem hlt
  have hx':=List.getElem?_eq_getElem (show k < m.length by omega)
  obtain ⟨b1,o1,rfl,hRd1,_⟩:=lvRow hr hx
  obtain ⟨b2,o2,rfl,hRd2,_⟩:=lvRow hr' hx'
  refine AC ?_;refine AA ?_;refine BC ?_;refine AE ?_;refine AC ?_;refine AN rfl ?_;refine AK ?_;refine AC ?_;refine AP ?_;refine AC ?_;refine AA ?_;refine AB ?_;refine AD ?_;refine AE ?_;refine AC ?_
  refine A5 (.q 0 (.q 1 (.q 2 (.q 3 (.q 4 (.q 5 (.q 6 (.q 7 (.q 8 .nil))))))))) [] rfl (by kernel_rfl) Sel.nil ?_
  refine AS ?_;refine AS ?_;refine BJ ?_;refine BN ?_;refine AS ?_;refine AS ?_;refine BJ ?_;refine BN ?_
  focus ((refine' CT rfl _ rfl rfl rfl rfl _; rotate_left; (apply q_neS [l[k].a,l[k].v] [m[k].a,m[k].v] (n:=2); exact rfl; exact rfl; kernel_rfl; kernel_rfl; kernel_rfl; exact rfl; exact rfl)))
  refine A6 ?_
  by_cases he:l[k] = m[k]
  ·rw [he]
   rw [show (!decide ([m[k].a,m[k].v] = [m[k].a,m[k].v])) = false by simp]
   skip
   refine AM rfl ?_;refine AK ?_;refine A3 ?_;refine AA ?_;refine A8 ?_;refine AB ?_;refine AE ?_
   refine AY (k + 1) ⟨by omega,?_⟩ (by omega) covZ selZ
   rw [List.take_succ_eq_append_getElem hlt,List.take_succ_eq_append_getElem (show k < m.length by omega),hI,he]
  ·have hne:¬ ([l[k].a,l[k].v] = [m[k].a,m[k].v]):=fun h=>he (by
    simp only [List.cons.injEq,and_true] at h
    generalize l[k] = x at *
    generalize m[k] = y at *
    obtain ⟨x1,x2⟩:=x
    obtain ⟨y1,y2⟩:=y
    simp only at h
    rw [h.1,h.2])
   rw [show (!decide ([l[k].a,l[k].v] = [m[k].a,m[k].v])) = true by simp only [decide_eq_false hne,Bool.not_false]]
   skip
   refine AN rfl ?_;refine AC ?_;refine AA ?_;refine AD ?_;refine AE ?_
   exact AI (res1 rfl rfl) rsubZ selZ ⟨rfl,by rw [decide_eq_false (fun h=>he (by subst h; rfl))]⟩
 ·rw [List.take_of_length_le (by omega),List.take_of_length_le (by omega)] at hI
  refine AC ?_;refine AA ?_;refine AZ ?_;refine AE ?_;refine AC ?_;refine AM rfl ?_;refine A7 rfl ?_;refine AC ?_;refine AA ?_;refine AD ?_;refine AE ?_
  exact AI (res1 rfl rfl) rsubZ selZ ⟨rfl,by rw [decide_eq_true hI]⟩
end Go.Proofs.YtphehihohghfoaaGreat
/- The planner's example. No program in sight. No conditions. -/
namespace Go.Step
open Go.Flow (Flw fval inCap)
def e9:List Int:=[9,1,9]
def eD5:Dm:=⟨0,2,5,0,6⟩
theorem e9Valid:validT e9 eC [] [] eD = true:=by decide +kernel
theorem e9Valid5:validT e9 eC [] [] eD5 = true:=by decide +kernel
theorem e9Arcs:arcsE e9 eC [] [] eD = eA:=by decide +kernel
theorem e9Arcs5:arcsE e9 eC [] [] eD5 = eA:=by decide +kernel
theorem e9G:arcsG e9 eC [] [] eD = arcsG eQ eC [] [] eD:=by rw [eG]; unfold arcsG; rw [e9Arcs]
theorem e9G5:arcsG e9 eC [] [] eD5 = arcsG eQ eC [] [] eD:=by rw [eG]; unfold arcsG; rw [e9Arcs5]
theorem e9Max (hok:VOk eQ eC [] [] eD) {F:List Int} {m e:Int} (hm:MaxN e9 eC [] [] eD F m e):m = 4:=by
  have h:MaxN eQ eC [] [] eD F m e:=by
    unfold MaxN at hm ⊢;rw [e9G] at hm;exact hm
  exact (eMax hok h).2.1
theorem e9Max5 (hok:VOk eQ eC [] [] eD) {F:List Int} {m e:Int} (hm:MaxN e9 eC [] [] eD5 F m e):m = 4:=by
  have h:MaxN eQ eC [] [] eD F m e:=by
    unfold MaxN at hm ⊢;rw [e9G5] at hm;exact hm
  exact (eMax hok h).2.1
def eL:List Sh:=[⟨0,0,1⟩,⟨0,1,3⟩,⟨1,3,3⟩,⟨1,4,1⟩]
theorem eShipsL {F:List Int} (hf:Flw 21 (arcsG eQ eC [] [] eD) 0 20 F) (hv:fval 0 (arcsG eQ eC [] [] eD) F = 4):shipsF eA F = eL:=by
  rw [eG] at hf hv
  have hl:=hf.len
  have hc:=hf.cap
  have e0:=hf.bal 1 (by omega) (by omega) (by omega)
  have e7:=hf.bal 7 (by omega) (by omega) (by omega)
  have e8:=hf.bal 8 (by omega) (by omega) (by omega)
  have e9:=hf.bal 9 (by omega) (by omega) (by omega)
  have e10:=hf.bal 10 (by omega) (by omega) (by omega)
  have e11:=hf.bal 11 (by omega) (by omega) (by omega)
  have e12:=hf.bal 12 (by omega) (by omega) (by omega)
  have e13:=hf.bal 13 (by omega) (by omega) (by omega)
  have e2:=hf.bal 2 (by omega) (by omega) (by omega)
  have e3:=hf.bal 3 (by omega) (by omega) (by omega)
  have e4:=hf.bal 4 (by omega) (by omega) (by omega)
  have e5:=hf.bal 5 (by omega) (by omega) (by omega)
  have e6:=hf.bal 6 (by omega) (by omega) (by omega)
  clear hf
  match F,hl with
  | [a0,a1,a2,a3,a4,a5,a6,a7,a8,a9,a10,a11,a12,a13,a14,a15,a16,a17,a18,a19,a20,a21],_ =>
    simp [eA,fval] at hv e0 e7 e8 e9 e10 e11 e12 e13 e2 e3 e4 e5 e6
    simp [eA,inCap] at hc
    have h18:a18 = 1:=by omega
    have h19:a19 = 3:=by omega
    have h20:a20 = 3:=by omega
    have h21:a21 = 1:=by omega
    subst h18 h19 h20 h21
    simp [eA,shipsF,eL]
theorem e9Plan (hq:VOk eQ eC [] [] eD) (hok:VOk e9 eC [] [] eD) {acc:Bool} {vol:Int} {ss:List Sh} {c:Cu} (hp:PlanOK e9 eC [] [] eD acc vol ss c):acc = true ∧ vol = 4 ∧ ss = eL ∧ c = []:=by
  obtain ⟨F,m,hm,hp⟩:=hp
  have h4:=e9Max hq hm
  subst h4
  rcases hp with ⟨a1,_⟩ | ⟨a1,a2,a3,a4,ps,a5,a6⟩
  · exact absurd a1 (by decide)
  refine ⟨a2,a3,?_,a4⟩
  obtain ⟨N,S,T,hN,hS,hT,hf,hv,_⟩:=part_ok hok e9Valid hm a5 a1
  have n1 : N = 21 := by have : vsN e9 eD = 21 := by decide +kernel
                         omega
  have n2 : S = 0 := by have : vtx eD eD.s eD.r = 0 := eS
                        omega
  have n3 : T = 20 := by have : vtx eD eD.d eD.e = 20 := eT
                         omega
  subst n1 n2 n3;rw [e9G] at hf hv;rw [a6,e9Arcs];exact eShipsL hf hv
theorem e9Plan5 (hq:VOk eQ eC [] [] eD) {acc:Bool} {vol:Int} {ss:List Sh} {c:Cu} (hp:PlanOK e9 eC [] [] eD5 acc vol ss c):acc = false ∧ vol = 4 ∧ c.length = 3:=by
  obtain ⟨F,m,hm,hp⟩:=hp
  have h4:=e9Max5 hq hm
  subst h4
  rcases hp with ⟨a1,a2,a3,a4,side,k,_,a6⟩ | ⟨a1,_⟩
  · exact ⟨a2,a3,by rw [a6,sidesC_len]; rfl⟩
  · exact absurd a1 (by decide)
theorem max_val {qs:List Int} {cs:List Ct} {bs:List Bk} {hs:List Hd} {d:Dm} (h:VOk qs cs bs hs d) {F fl:List Int} {m e v:Int} {N S T:Nat} (hm:MaxN qs cs bs hs d F m e) (hN:vsN qs d = N) (hS:vtx d d.s d.r = S) (hT:vtx d d.d d.e = T) (hf:Flw N (arcsG qs cs bs hs d) S T fl) (hv:fval S (arcsG qs cs bs hs d) fl = v) {P:Int → Int → Bool} (h1:P d.s d.r = true) (h2:P d.d d.e = false) (hc:capB qs cs bs hs d P = v):m = v:=by
  obtain ⟨_,N',S',T',hN',hS',hT',hf',hv',P',p1,p2,p3⟩:=max_cut h hm
  have a:=flow_le_cap h hN' hS' hT' hf' h1 h2
  have b:=flow_le_cap h hN hS hT hf p1 p2
  omega
theorem e9Flow5:Flw 18 (arcsG e9 eC [] [] (atE eD 5)) 0 17 [3,0,0,0,0,0,0,0,0,0,0,0,0,0,0,0,3,3]:=by
  refine ⟨by decide +kernel,by decide +kernel,?_⟩
  have:∀ v:Fin 18,v.1 ≠ 0 → v.1 ≠ 17 → fval v.1 (arcsG e9 eC [] [] (atE eD 5)) [3,0,0,0,0,0,0,0,0,0,0,0,0,0,0,0,3,3] = 0:=by decide +kernel
  exact fun v hv h1 h2=>this ⟨v,hv⟩ h1 h2
theorem e9Curve (hq:VOk eQ eC [] [] eD) (hok:∀ j:Nat,j < 6 → VOk e9 eC [] [] (atE eD (eD.r + ((j + 1:Nat):Int)))) (hex:∀ j:Nat,j < 6 → ∃ F m,MaxN e9 eC [] [] (atE eD (eD.r + ((j + 1:Nat):Int))) F m 0):curveK e9 eC [] [] eD 6 = [⟨5,3⟩,⟨6,4⟩]:=by
  have hz:∀ j:Nat,j < 6 → capB e9 eC [] [] (atE eD (eD.r + ((j + 1:Nat):Int))) (fun n _=>decide (n ≠ 2)) = 0 → mostK e9 eC [] [] eD (j + 1) = 0:=fun j hj hc=>by
    obtain ⟨F,m,hm⟩:=hex j hj
    rw [mostK_eq hm]
    have h0:=max_nonneg (hok j hj) hm
    obtain ⟨_,N,S,T,hN,hS,hT,hf,hv,_⟩:=max_cut (hok j hj) hm
    have:=flow_le_cap (hok j hj) hN hS hT hf (P:=fun n _=>decide (n ≠ 2)) rfl rfl
    omega
  have m0:mostK e9 eC [] [] eD 0 = 0:=rfl
  have m1:=hz 0 (by omega) (by decide +kernel)
  have m2:=hz 1 (by omega) (by decide +kernel)
  have m3:=hz 2 (by omega) (by decide +kernel)
  have m4:=hz 3 (by omega) (by decide +kernel)
  have m5:mostK e9 eC [] [] eD 5 = 3:=by
    obtain ⟨F,m,hm⟩:=hex 4 (by omega)
    rw [show (5:Nat) = 4 + 1 from rfl,mostK_eq hm]
    exact max_val (hok 4 (by omega)) hm (N:=18) (S:=0) (T:=17) (by decide +kernel) (by decide +kernel) (by decide +kernel) e9Flow5 (by decide +kernel) (P:=fun n _=>decide (n ≠ 2)) rfl rfl (by decide +kernel)
  have m6:mostK e9 eC [] [] eD 6 = 4:=by
    obtain ⟨F,m,hm⟩:=hex 5 (by omega)
    rw [show (6:Nat) = 5 + 1 from rfl,mostK_eq hm]
    exact e9Max hq hm
  unfold curveK curveK curveK curveK curveK curveK curveK;simp only [m0,m1,m2,m3,m4,m5,m6]
  decide
end Go.Step
/- The example is awake. -/
namespace Go.Proofs.YtphehihohghfoaaGreat
open Go.Eng Go.Step
set_option maxRecDepth 100000
set_option maxHeartbeats 4000000

theorem equalX_spec (ρ τ:PH) (v w:Value) (l m:List Sh) (hv:ShAt ρ v l) (hw:ShAt τ w m) (hl:l.length ≤ 9223372036854775807) :
  Ans Tryz.prog (fv 26) [v,w] [ρ,τ] (fun r=>r = .bool (decide (l = m))):=by
 obtain ⟨q,c,rfl,hr⟩:=hv.val encX_len
 obtain ⟨q',c',rfl,hr'⟩:=hw.val encX_len
 refine spec_in (cap:=[]) Tryz.func26 rfl rfl Tryz.ntmps26 rfl envZ (fun N β=>?_)
 by_cases hlen:l.length = m.length
 rotate_left
 ·refine AC ?_
  refine AA ?_;refine AD ?_;refine AE ?_;refine AC ?_;refine AC ?_;refine AA ?_;refine AB ?_;refine AW ?_;refine AB ?_;refine AW ?_;refine CF ?_;refine AE ?_;refine AN rfl ?_;refine AC ?_;refine AA ?_;refine AD ?_;refine AE ?_
  exact AI (res1 rfl rfl) rsubZ selZ ⟨rfl,by rw [decide_eq_false (fun h=>hlen (by rw [h]))]⟩
 refine AC ?_;refine AA ?_;refine AD ?_;refine AE ?_;refine AC ?_;refine AC ?_;refine AA ?_;refine AB ?_;refine AW ?_;refine AB ?_;refine AW ?_;refine BF ?_;refine AE ?_;refine AM rfl ?_;refine AK ?_;refine AC ?_;refine AC ?_;refine AA ?_;refine AB ?_;refine AW ?_;refine AB ?_;refine AE ?_;refine AP ?_
 refine BA [0,1,12] (0:Nat) (fun k=>k ≤ l.length ∧ l.take k = m.take k) (fun k=>[(13,int k)]) (fun _=>[]) (fun k=>l.length - k) pickZ ⟨by omega,by simp⟩ covZ selZ ?_
 rintro k ⟨hk,hI⟩
 by_cases hlt:k < l.length
 ·have hx:=List.getElem?_eq_getElem hlt
  have hx':=List.getElem?_eq_getElem (show k < m.length by omega)
  obtain ⟨b1,o1,rfl,hRd1,_⟩:=shRow hr hx
  obtain ⟨b2,o2,rfl,hRd2,_⟩:=shRow hr' hx'
  refine AC ?_;refine AA ?_;refine BC ?_;refine AE ?_;refine AC ?_;refine AN rfl ?_;refine AK ?_;refine AC ?_;refine AP ?_;refine AC ?_;refine AA ?_;refine AB ?_;refine AD ?_;refine AE ?_;refine AC ?_
  refine A5 (.q 0 (.q 1 (.q 2 (.q 3 (.q 4 (.q 5 (.q 6 (.q 7 (.q 8 .nil))))))))) [] rfl (by kernel_rfl) Sel.nil ?_
  refine AS ?_;refine AS ?_;refine BJ ?_;refine BN ?_;refine AS ?_;refine AS ?_;refine BJ ?_;refine BN ?_
  focus ((refine' CT rfl _ rfl rfl rfl rfl _; rotate_left; (apply q_neS [l[k].c,l[k].t,l[k].n] [m[k].c,m[k].t,m[k].n] (n:=3); exact rfl; exact rfl; kernel_rfl; kernel_rfl; kernel_rfl; exact rfl; exact rfl)))
  refine A6 ?_
  by_cases he:l[k] = m[k]
  ·rw [he]
   rw [show (!decide ([m[k].c,m[k].t,m[k].n] = [m[k].c,m[k].t,m[k].n])) = false by simp]
   skip
   refine AM rfl ?_;refine AK ?_;refine A3 ?_;refine AA ?_;refine A8 ?_;refine AB ?_;refine AE ?_
   refine AY (k + 1) ⟨by omega,?_⟩ (by omega) covZ selZ
   rw [List.take_succ_eq_append_getElem hlt,List.take_succ_eq_append_getElem (show k < m.length by omega),hI,he]
  ·have hne:¬ ([l[k].c,l[k].t,l[k].n] = [m[k].c,m[k].t,m[k].n]):=fun h=>he (by
    simp only [List.cons.injEq,and_true] at h
    generalize l[k] = x at *
    generalize m[k] = y at *
    obtain ⟨x1,x2,x3⟩:=x
    obtain ⟨y1,y2,y3⟩:=y
    simp only at h
    rw [h.1,h.2.1,h.2.2])
   rw [show (!decide ([l[k].c,l[k].t,l[k].n] = [m[k].c,m[k].t,m[k].n])) = true by simp only [decide_eq_false hne,Bool.not_false]]
   skip
   refine AN rfl ?_;refine AC ?_;refine AA ?_;refine AD ?_;refine AE ?_
   exact AI (res1 rfl rfl) rsubZ selZ ⟨rfl,by rw [decide_eq_false (fun h=>he (by subst h; rfl))]⟩
 ·rw [List.take_of_length_le (by omega),List.take_of_length_le (by omega)] at hI
  refine AC ?_;refine AA ?_;refine AZ ?_;refine AE ?_;refine AC ?_;refine AM rfl ?_;refine A7 rfl ?_;refine AC ?_;refine AA ?_;refine AD ?_;refine AE ?_
  exact AI (res1 rfl rfl) rsubZ selZ ⟨rfl,by rw [decide_eq_true hI]⟩
theorem example54_spec:Eng.Spec Tryz.prog (fv 25) [] [] [] (fun r H'=>∃ bq bc,r = .tuple #[.agg #[.slice (some ⟨bq,0,none⟩) 3 3,.slice (some ⟨bc,0,none⟩) 2 2,.slice none 0 0,.slice none 0 0],.agg #[int 0,int 2,int 4,int 0,int 6]] ∧ H' = [sng bq (.cells #[int 9,int 1,int 9] 3 (0,0)),sng bc (.cells #[int 0,int 1,int 0,int 2,int 3,int 1,int 0,int 1,int 2,int 3,int 5,int 3,int 1,int 0] 57 (0,0))]):=by
 refine spec_in (cap:=[]) Tryz.func25 rfl rfl Tryz.ntmps25 rfl envZ (fun N β=>?_)
 refine AC ?_;refine AA ?_;refine AX ?_; rintro _ _ ⟨b,rfl,rfl⟩;refine AX ?_; rintro _ _ ⟨b,rfl,rfl⟩;refine AE ?_;refine AC ?_;refine AA ?_;refine BI ?_; rintro _ _ ⟨b,rfl,rfl⟩;refine BO ?_;refine BO ?_
 focus ((refine' BH _ rfl rfl rfl _; rotate_left; (focus (apply CU; exact rfl; exact rfl; exact rfl; exact rfl; exact rfl; exact (by (repeat (first | exact (fun v hv=>absurd hv List.not_mem_nil) | (refine List.forall_mem_cons.2 ⟨?_,?_⟩; (focus (first | exact rfl | assumption))))); first | done | fail); exact Flat.agg7 (Flat.agg7 Flat.nil); exact rfl)); rintro _ _ ⟨b,rfl,rfl⟩))
 refine BO ?_
 revert b; intro bc
 revert b; intro bq
 revert b; intro bd
 revert b; intro bt
 refine CD (DP (out:=[.slice (some ⟨bq,0,none⟩) 3 3,.slice (some ⟨bc,0,none⟩) 2 2,.slice none 0 0,.slice none 0 0]) rfl rfl rfl rfl rfl) rfl rfl rfl ?_;refine BO ?_;refine AV ?_; rintro _ _ ⟨rfl,rfl⟩;refine AV ?_; rintro _ _ ⟨rfl,rfl⟩;refine AE ?_;exact AI (resS2 (b1:=bt) (b2:=bd) (T:=29) (U:=31) (v1:=[.slice (some ⟨bq,0,none⟩) 3 3,.slice (some ⟨bc,0,none⟩) 2 2,.slice none 0 0,.slice none 0 0]) (v2:=[int 0,int 2,int 4,int 0,int 6]) rfl rfl rfl rfl rfl rfl rfl (cells_own memZ) (cells_own memZ)) rsubZ selZ ⟨bq,bc,rfl,rfl⟩
set_option maxHeartbeats 64000000 in
theorem awake54_spec:Ans Tryz.prog (fv 8) [] [] (fun r=>r = .bool true):=by
 have hq:=vok eValid
 have hok:=vok e9Valid
 have hoks:∀ j:Nat,j < 6 → VOk e9 eC [] [] (atE eD (eD.r + ((j + 1:Nat):Int))):=fun j hj=>vok (valid_at e9Valid (show (0:Int) + ((j + 1:Nat):Int) ≤ 6 by omega))
 refine spec_in (cap:=[]) Tryz.func8 rfl rfl Tryz.ntmps8 rfl envZ (fun N β=>?_)
 refine BX ?_;refine AC ?_;refine AA ?_;refine AD ?_;refine AE ?_;refine AC ?_;refine AA ?_;refine BE example54_spec rfl rfl Takes.nil rdZ rfl rfl ?_;rintro _ _ ⟨bq,bc,rfl,rfl⟩;refine AR (ρ:=sng bq (.cells #[int 9,int 1,int 9] 3 (0,0))) takeZ ?_;refine AR (ρ:=sng bc (.cells #[int 0,int 1,int 0,int 2,int 3,int 1,int 0,int 1,int 2,int 3,int 5,int 3,int 1,int 0] 57 (0,0))) takeZ ?_;refine AR (ρ:=emp) takeZ ?_;refine AB ?_;refine AO ?_;refine AO ?_;refine AX ?_; rintro _ _ ⟨b,rfl,rfl⟩;refine AX ?_; rintro _ _ ⟨b,rfl,rfl⟩;refine AV ?_; rintro _ _ ⟨rfl,rfl⟩;refine AV ?_; rintro _ _ ⟨rfl,rfl⟩;refine AE ?_;refine AC ?_;refine AA ?_;refine AT ?_;refine AT ?_
 revert b; intro bd
 revert b; intro bt
 refine AR (ρ:=sng bt _) takeZ ?_
 have ct:RdN (sng bt (.cells #[.slice (some ⟨bq,0,none⟩) 3 3,.slice (some ⟨bc,0,none⟩) 2 2,.slice none 0 0,.slice none 0 0] 29 (0,0))) bt 0 [.slice (some ⟨bq,0,none⟩) 3 3,.slice (some ⟨bc,0,none⟩) 2 2,.slice none 0 0,.slice none 0 0]:=rdN_sng (vs:=[.slice (some ⟨bq,0,none⟩) 3 3,.slice (some ⟨bc,0,none⟩) 2 2,.slice none 0 0,.slice none 0 0])
 have hT:TbAt (sng bq (.cells #[int 9,int 1,int 9] 3 (0,0))) (sng bc (.cells #[int 0,int 1,int 0,int 2,int 3,int 1,int 0,int 1,int 2,int 3,int 5,int 3,int 1,int 0] 57 (0,0))) emp emp (some ⟨bq,0,none⟩) (some ⟨bc,0,none⟩) none none 3 2 0 0 e9 eC [] []:=
  ⟨slE_sng (l:=e9) Eng.encI_len,slE_sng (l:=eC) encC_len,by decide,by decide,by decide,⟨rfl,.inl ⟨rfl,none,0,rfl⟩⟩,by decide,⟨rfl,.inl ⟨rfl,none,0,rfl⟩⟩,by decide⟩
 refine BE (Plan_spec hT eD) rfl rfl Takes.nil rdZ rfl rfl ?_;rintro _ _ (⟨_,acc,vol,ss,c,a,σ1,σ2,σ3,rfl,rfl,hPO,p1,k1,L,p2,k2,rfl,hS,hC,hL⟩ | ⟨hv,_⟩)
 rotate_left
 ·rw [e9Valid] at hv; simp at hv
 obtain ⟨rfl,rfl,rfl,rfl⟩:=e9Plan hq hok hPO
 refine AR (ρ:=σ1) takeZ ?_;refine AB ?_;refine AO ?_;refine AO ?_;refine AX ?_; rintro _ _ ⟨b,rfl,rfl⟩;refine AV ?_; rintro _ _ ⟨rfl,rfl⟩;refine AD ?_;refine AE ?_;refine AC ?_;refine AA ?_;refine AT ?_;refine AT ?_;refine BZ (Curve_spec hT eD) rfl rfl rdZ rfl rfl ?_;rintro _ χc ⟨uc,rfl,hOc,hex⟩;rw [if_pos e9Valid] at hOc
 have hcv:curveK e9 eC [] [] eD (eD.e - eD.r).toNat = [⟨5,3⟩,⟨6,4⟩]:=e9Curve hq hoks (fun j hj=>hex e9Valid j hj)
 rw [hcv] at hOc
 have hLc:LvAt χc uc [⟨5,3⟩,⟨6,4⟩]:=hOc.at
 obtain ⟨pu,ku,rfl⟩:=hOc.form
 refine AR (ρ:=χc) takeZ ?_;rw [if_pos e9Valid];refine AB ?_;refine AO ?_;refine AO ?_;refine AD ?_;refine AD ?_;refine AE ?_;refine AC ?_;refine AA ?_;refine AG ?_;refine BD ?_; rintro _ _ ⟨rfl,rfl⟩;refine AE ?_;refine AC ?_;refine AA ?_;refine AT ?_;refine AT ?_;refine BE (Plan_spec hT eD5) rfl rfl Takes.nil rdZ rfl rfl ?_;rintro _ _ (⟨_,acc,vol,ss,c,a,σ4,σ5,σ6,rfl,rfl,hPO5,p3,k3,L5,p4,k4,rfl,hS5,hC5,hL5⟩ | ⟨hv,_⟩)
 rotate_left
 ·rw [e9Valid5] at hv; simp at hv
 obtain ⟨rfl,rfl,hcl⟩:=e9Plan5 hq hPO5
 have hLl:L5.length = 3:=by rw [← hcl,← hL5,List.length_map]
 rw [hLl];refine AB ?_;refine AO ?_;refine AO ?_;refine AX ?_; rintro _ _ ⟨b,rfl,rfl⟩;refine AV ?_; rintro _ _ ⟨rfl,rfl⟩;refine AD ?_;refine AE ?_;refine AC ?_;refine AA ?_;refine AB ?_;refine CI ?_;refine AB ?_;refine AB ?_;refine CI ?_;refine AL ?_;refine AB ?_;refine AB ?_;refine CI ?_;refine AL ?_;refine AB ?_;refine AG ?_;refine AF ?_;refine BO ?_;refine BO ?_;refine BO ?_;refine BO ?_;refine BI ?_; rintro _ _ ⟨b,rfl,rfl⟩
 revert b; intro bx
 have hx:=equalX_spec σ1 (sng bx (.cells #[int 0,int 0,int 1,int 0,int 1,int 3,int 1,int 3,int 3,int 1,int 4,int 1] 55 (0,0))) (.slice p1 eL.length k1) (.slice (some ⟨bx,0,none⟩) 4 4) eL eL hS (slE_sng (l:=eL) encX_len) (by decide)
 rw [decide_eq_true rfl] at hx;refine A2 hx rfl rfl rdZ rfl rfl ?_;rintro _ rfl;refine AL ?_;refine AB ?_;refine AB ?_;refine BO ?_;refine BO ?_;refine BI ?_; rintro _ _ ⟨b,rfl,rfl⟩
 revert b; intro by_
 have hy:=equalV_spec χc (sng by_ (.cells #[int 5,int 3,int 6,int 4] 50 (0,0))) _ (.slice (some ⟨by_,0,none⟩) 2 2) [⟨5,3⟩,⟨6,4⟩] [⟨5,3⟩,⟨6,4⟩] hLc (slE_sng (l:=[(⟨5,3⟩:Lv),⟨6,4⟩]) encV_len) (by decide)
 rw [decide_eq_true rfl] at hy;refine A2 hy rfl rfl rdZ rfl rfl ?_;rintro _ rfl;refine AL ?_;refine AB ?_;refine AG ?_;refine AF ?_;refine A9 ?_;refine AL ?_;refine AB ?_;refine AG ?_;refine AF ?_;refine CI ?_;refine AL ?_;refine AB ?_;refine AG ?_;refine AF ?_;refine AW ?_;refine CI ?_;refine AL ?_;refine AD ?_;refine AE ?_;exact AI (res1 rfl rfl) rsubZ selZ ⟨rfl,rfl⟩
end Go.Proofs.YtphehihohghfoaaGreat
/- Law PlannerAnswers. -/
namespace Go.Proofs.YtphehihohghfoaaGreat
open Go.Eng Go.Step
set_option maxRecDepth 100000
set_option maxHeartbeats 4000000

theorem great54_spec (pq pc pb ph:Option Addr) (kq kc kb kh nq nc nb nh:Nat) (d:Dm):Ans Tryz.prog (fv 7) [.agg #[.slice pq nq kq,.slice pc nc kc,.slice pb nb kb,.slice ph nh kh],.agg #[int d.s,int d.d,int d.v,int d.r,int d.e]] [] (fun r=>∃ b,r = .bool b):=by
 refine spec_in (cap:=[]) Tryz.func7 rfl rfl Tryz.ntmps7 rfl envZ (fun N β=>?_)
 refine AC ?_;refine AA ?_;refine BH (BK rfl) rfl rfl rfl ?_;rintro _ _ ⟨b1,rfl,rfl⟩;refine AR (ρ:=sng b1 _) takeZ ?_
 have c:RdN (sng b1 (.cells #[.slice pq nq kq,.slice pc nc kc,.slice pb nb kb,.slice ph nh kh] 29 (0,0))) b1 0 [.slice pq nq kq,.slice pc nc kc,.slice pb nb kb,.slice ph nh kh]:=rdN_sng (vs:=[.slice pq nq kq,.slice pc nc kc,.slice pb nb kb,.slice ph nh kh])
 have c0:rdc (sng b1 (.cells #[.slice pq nq kq,.slice pc nc kc,.slice pb nb kb,.slice ph nh kh] 29 (0,0))) b1 0 = some (.slice pq nq kq):=by rw [rdc_sng]; rfl
 have c1:rdc (sng b1 (.cells #[.slice pq nq kq,.slice pc nc kc,.slice pb nb kb,.slice ph nh kh] 29 (0,0))) b1 1 = some (.slice pc nc kc):=by rw [rdc_sng]; rfl
 have c2:rdc (sng b1 (.cells #[.slice pq nq kq,.slice pc nc kc,.slice pb nb kb,.slice ph nh kh] 29 (0,0))) b1 2 = some (.slice pb nb kb):=by rw [rdc_sng]; rfl
 have c3:rdc (sng b1 (.cells #[.slice pq nq kq,.slice pc nc kc,.slice pb nb kb,.slice ph nh kh] 29 (0,0))) b1 3 = some (.slice ph nh kh):=by rw [rdc_sng]; rfl
 refine BH (BK rfl) rfl rfl rfl ?_;rintro _ _ ⟨b2,rfl,rfl⟩;refine AR (ρ:=sng b2 _) takeZ ?_
 have cd:RdN (sng b2 (.cells #[int d.s,int d.d,int d.v,int d.r,int d.e] 31 (0,0))) b2 0 [int d.s,int d.d,int d.v,int d.r,int d.e]:=rdN_sng (vs:=[int d.s,int d.d,int d.v,int d.r,int d.e])
 have cd0:rdc (sng b2 (.cells #[int d.s,int d.d,int d.v,int d.r,int d.e] 31 (0,0))) b2 0 = some (int d.s):=by rw [rdc_sng]; rfl
 have cd1:rdc (sng b2 (.cells #[int d.s,int d.d,int d.v,int d.r,int d.e] 31 (0,0))) b2 1 = some (int d.d):=by rw [rdc_sng]; rfl
 have cd2:rdc (sng b2 (.cells #[int d.s,int d.d,int d.v,int d.r,int d.e] 31 (0,0))) b2 2 = some (int d.v):=by rw [rdc_sng]; rfl
 have cd3:rdc (sng b2 (.cells #[int d.s,int d.d,int d.v,int d.r,int d.e] 31 (0,0))) b2 3 = some (int d.r):=by rw [rdc_sng]; rfl
 have cd4:rdc (sng b2 (.cells #[int d.s,int d.d,int d.v,int d.r,int d.e] 31 (0,0))) b2 4 = some (int d.e):=by rw [rdc_sng]; rfl
 refine AD ?_;refine AE ?_;refine AC ?_;refine AA ?_;refine AT ?_;refine AT ?_;refine A2 (great53_spec pq pc pb ph kq kc kb kh nq nc nb nh d) rfl rfl rdZ rfl rfl ?_;rintro _ ⟨b,rfl⟩;refine AD ?_;refine AE ?_;exact AI (res1 rfl rfl) rsubZ selZ ⟨rfl,b,rfl⟩
theorem fine54_spec {ρ τ σ υ:PH} {pq pc pb ph:Option Addr} {kq kc kb kh:Nat} {qs:List Int} {cs:List Ct} {bs:List Bk} {hs:List Hd} (hT:TbAt ρ τ σ υ pq pc pb ph kq kc kb kh qs cs bs hs) (d:Dm):Ans Tryz.prog (fv 17) [.agg #[.slice pq qs.length kq,.slice pc cs.length kc,.slice pb bs.length kb,.slice ph hs.length kh],.agg #[int d.s,int d.d,int d.v,int d.r,int d.e]] [ρ,τ,σ,υ] (fun r=>∃ b,r = .bool b ∧ (b = true → validT qs cs bs hs d = true)):=by
 refine spec_in (cap:=[]) Tryz.func17 rfl rfl Tryz.ntmps17 rfl envZ (fun N β=>?_)
 refine AC ?_;refine AA ?_;refine BH (BK rfl) rfl rfl rfl ?_;rintro _ _ ⟨b1,rfl,rfl⟩;refine AR (ρ:=sng b1 _) takeZ ?_
 have ct:RdN (sng b1 (.cells #[.slice pq qs.length kq,.slice pc cs.length kc,.slice pb bs.length kb,.slice ph hs.length kh] 29 (0,0))) b1 0 [.slice pq qs.length kq,.slice pc cs.length kc,.slice pb bs.length kb,.slice ph hs.length kh]:=rdN_sng (vs:=[.slice pq qs.length kq,.slice pc cs.length kc,.slice pb bs.length kb,.slice ph hs.length kh])
 have ct0:rdc (sng b1 (.cells #[.slice pq qs.length kq,.slice pc cs.length kc,.slice pb bs.length kb,.slice ph hs.length kh] 29 (0,0))) b1 0 = some (.slice pq qs.length kq):=by rw [rdc_sng]; rfl
 have ct1:rdc (sng b1 (.cells #[.slice pq qs.length kq,.slice pc cs.length kc,.slice pb bs.length kb,.slice ph hs.length kh] 29 (0,0))) b1 1 = some (.slice pc cs.length kc):=by rw [rdc_sng]; rfl
 have ct2:rdc (sng b1 (.cells #[.slice pq qs.length kq,.slice pc cs.length kc,.slice pb bs.length kb,.slice ph hs.length kh] 29 (0,0))) b1 2 = some (.slice pb bs.length kb):=by rw [rdc_sng]; rfl
 have ct3:rdc (sng b1 (.cells #[.slice pq qs.length kq,.slice pc cs.length kc,.slice pb bs.length kb,.slice ph hs.length kh] 29 (0,0))) b1 3 = some (.slice ph hs.length kh):=by rw [rdc_sng]; rfl
 have ctp:RdP (sng b1 (.cells #[.slice pq qs.length kq,.slice pc cs.length kc,.slice pb bs.length kb,.slice ph hs.length kh] 29 (0,0))) b1 0 [.slice pq qs.length kq,.slice pc cs.length kc]:=rdP_sng (xs:=[.slice pq qs.length kq,.slice pc cs.length kc,.slice pb bs.length kb,.slice ph hs.length kh]) rfl
 refine BH (BK rfl) rfl rfl rfl ?_;rintro _ _ ⟨b2,rfl,rfl⟩;refine AR (ρ:=sng b2 _) takeZ ?_
 have cd:RdN (sng b2 (.cells #[int d.s,int d.d,int d.v,int d.r,int d.e] 31 (0,0))) b2 0 [int d.s,int d.d,int d.v,int d.r,int d.e]:=rdN_sng (vs:=[int d.s,int d.d,int d.v,int d.r,int d.e])
 have cd0:rdc (sng b2 (.cells #[int d.s,int d.d,int d.v,int d.r,int d.e] 31 (0,0))) b2 0 = some (int d.s):=by rw [rdc_sng]; rfl
 have cd1:rdc (sng b2 (.cells #[int d.s,int d.d,int d.v,int d.r,int d.e] 31 (0,0))) b2 1 = some (int d.d):=by rw [rdc_sng]; rfl
 have cd2:rdc (sng b2 (.cells #[int d.s,int d.d,int d.v,int d.r,int d.e] 31 (0,0))) b2 2 = some (int d.v):=by rw [rdc_sng]; rfl
 have cd3:rdc (sng b2 (.cells #[int d.s,int d.d,int d.v,int d.r,int d.e] 31 (0,0))) b2 3 = some (int d.r):=by rw [rdc_sng]; rfl
 have cd4:rdc (sng b2 (.cells #[int d.s,int d.d,int d.v,int d.r,int d.e] 31 (0,0))) b2 4 = some (int d.e):=by rw [rdc_sng]; rfl
 refine AD ?_;refine AE ?_;refine AC ?_;refine AA ?_;refine AT ?_;refine AT ?_;refine A2 (great54_spec pq pc pb ph kq kc kb kh qs.length cs.length bs.length hs.length d) rfl rfl rdZ rfl rfl ?_;rintro _ ⟨b,rfl⟩
 cases b with
 | true =>
  refine A9 ?_;refine AB ?_;refine AH rfl rfl rfl ?_;refine AH rfl rfl rfl ?_;refine AH rfl rfl rfl ?_;refine AJ ?_;refine AD ?_;refine AE ?_
  exact AI (res1 rfl rfl) rsubZ selZ ⟨rfl,false,rfl,fun h=>by simp at h⟩
 | false =>
 refine A9 ?_;refine AB ?_;refine AT ?_;refine AT ?_;refine A2 (refCheck53_spec hT d) rfl rfl rdZ rfl rfl ?_;rintro _ rfl;refine AL ?_;refine AD ?_;refine AE ?_
 exact AI (res1 rfl rfl) rsubZ selZ ⟨rfl,validT qs cs bs hs d,rfl,fun h=>h⟩
theorem planned_len {qs:List Int} {cs:List Ct} {bs:List Bk} {hs:List Hd} {d:Dm} (h:VOk qs cs bs hs d) {acc:Bool} {vol:Int} {ss:List Sh} {c:Cu} (hp:PlanOK qs cs bs hs d acc vol ss c):ss.length ≤ 1000000 ∧ c.length ≤ 1000000:=by
 have hEl:=ea_len qs cs bs hs d h
 obtain ⟨F,m,hm,hp⟩:=hp
 rcases hp with ⟨_,_,_,rfl,side,k,_,rfl⟩ | ⟨_,_,_,rfl,ps,_,rfl⟩
 ·exact ⟨by simp,by rw [sidesC_len]; have:=h.nq; omega⟩
 ·have hl:=shipsF_len (arcsE qs cs bs hs d) (partF qs cs bs hs d ps)
  exact ⟨by omega,by simp⟩
end Go.Proofs.YtphehihohghfoaaGreat
/- The vertices of a cut's sides, in the order in which a loop over the nodes and their times lists them. No program in sight. No conditions. -/
namespace Go.Step
open Go.Flow (MaxOK CutOK maxErr okEnds_iff run_cut capacitySpec sideOf bget mem_sideOf sideOf_chk sideOf_len capOf_congr)
variable {qs:List Int} {cs:List Ct} {bs:List Bk} {hs:List Hd} {d:Dm}
def vertsI (d:Dm) (n:Int) (I:Iv):List Int:=(tickL 0 (d.e + 1) 0 I).map (vtx d n)
def vertsC (d:Dm) (c:Cu):Nat → List Int
  | 0=>[]
  | k + 1=>vertsC d c k ++ vertsI d k (cuAt c k)
theorem vertsI_nil (d:Dm) (n:Int):vertsI d n [] = []:=rfl
theorem vertsI_next (d:Dm) (n:Int) {I:Iv} {k:Nat} {x:Int × Int} (h:I[k]? = some x):vertsI d n (I.take (k + 1)) = vertsI d n (I.take k) ++ (rngI (max x.1 0) (min x.2 (d.e + 1))).map (vtx d n):=by
  obtain ⟨hk,rfl⟩:=List.getElem?_eq_some_iff.1 h
  unfold vertsI tickL;rw [List.take_succ_eq_append_getElem hk,List.flatMap_append,List.map_append]
  congr 1
  simp [tickS]
theorem vtx_mono {d:Dm} {n t u:Int} (h:t < u):vtx d n t < vtx d n u:=by unfold vtx; omega
theorem vertsI_asc {d:Dm} {n:Int} {I:Iv} (h:NormI I):(vertsI d n I).Pairwise (· < ·):=by
  unfold vertsI;rw [List.pairwise_map]
  exact (tickL_asc h).imp (fun {x y} h=>vtx_mono h)
theorem mem_vertsI {d:Dm} {n v:Int} {I:Iv}:v ∈ vertsI d n I ↔ ∃ t,memI I t = true ∧ 0 ≤ t ∧ t ≤ d.e ∧ v = vtx d n t:=by
  unfold vertsI;rw [List.mem_map]
  constructor
  · rintro ⟨t,h,rfl⟩
    rw [mem_tickL] at h
    exact ⟨t,h.1,h.2.1,by omega,rfl⟩
  · rintro ⟨t,h1,h2,h3,rfl⟩
    exact ⟨t,mem_tickL.2 ⟨h1,h2,by omega⟩,rfl⟩
theorem vertsC_ok {d:Dm} (hw:d.r ≤ d.e) (hr:0 ≤ d.r) {nq:Nat} {side:List Int}:∀ {k:Nat},k ≤ nq → (vertsC d (sidesC d nq side) k).Pairwise (· < ·) ∧ ∀ v,v ∈ vertsC d (sidesC d nq side) k ↔ v ∈ side ∧ 0 ≤ v ∧ v < k * wd d
  | 0,_=>⟨.nil,fun v=>by simp [vertsC]; try omega⟩
  | k + 1,hk=>by
    obtain ⟨i1,i2⟩:=vertsC_ok hw hr (nq:=nq) (side:=side) (k:=k) (by omega)
    have hwd:0 < wd d:=by unfold wd; omega
    have e:vertsC d (sidesC d nq side) (k + 1) = vertsC d (sidesC d nq side) k ++ vertsI d k (sideI d side k):=by
      show vertsC d (sidesC d nq side) k ++ vertsI d k (cuAt (sidesC d nq side) k) = _
      rw [sidesC_at d side (by omega)]
    have hm:∀ v,v ∈ vertsI d k (sideI d side k) ↔ v ∈ side ∧ k * wd d ≤ v ∧ v < (k + 1:Nat) * wd d:=fun v=>by
      rw [mem_vertsI]
      constructor
      · rintro ⟨t,h1,h2,h3,rfl⟩
        obtain ⟨x,hx,h4⟩:=memI_iff.1 h1
        have hin:=sideI_in hw side k x hx
        refine ⟨(sideI_mem (by omega) h3).1 h1,?_,?_⟩
        · unfold vtx; omega
        · unfold vtx wd
          push_cast
          rw [Int.add_mul];omega
      · rintro ⟨h1,h2,h3⟩
        obtain ⟨⟨a1,a2⟩,⟨a3,a4⟩,a5⟩:=vtx_of (N:=k + 1) hwd (by have:=Int.mul_nonneg (show (0:Int) ≤ k by omega) (by omega:0 ≤ wd d); omega) h3
        have hd:v / wd d = k:=by
          have:(k:Int) ≤ v / wd d:=by rw [Int.le_ediv_iff_mul_le hwd]; exact h2
          omega
        rw [hd] at a5
        exact ⟨d.r + v % wd d,(sideI_mem a3 a4).2 (by rw [a5]; exact h1),by omega,a4,a5.symm⟩
    rw [e]
    have hkw:((k + 1:Nat):Int) * wd d = k * wd d + wd d:=by push_cast; rw [Int.add_mul]; omega
    have hk0:0 ≤ (k:Int) * wd d:=Int.mul_nonneg (by omega) (by omega)
    refine ⟨List.pairwise_append.2 ⟨i1,vertsI_asc (sideI_ok d side k).1,fun a ha b hb=>?_⟩,fun v=>?_⟩
    · have:=((i2 a).1 ha).2
      have:=((hm b).1 hb).2
      omega
    · rw [List.mem_append,i2,hm,hkw]
      constructor
      · rintro (⟨h1,h2,h3⟩ | ⟨h1,h2,h3⟩)
        · exact ⟨h1,by omega,by omega⟩
        · exact ⟨h1,by omega,by omega⟩
      · rintro ⟨h1,h2,h3⟩
        by_cases hc:v < k * wd d
        · exact .inl ⟨h1,h2,hc⟩
        · exact .inr ⟨h1,by omega,by omega⟩
theorem sideOf_asc (B:List Bool) (k:Nat):(sideOf B k).Pairwise (· < ·):=by
  unfold sideOf;rw [List.pairwise_map]
  exact (List.pairwise_lt_range.filter _).imp (fun {x y} h=>by omega)
theorem cut_verts (h:VOk qs cs bs hs d) {side:List Int} {c e:Int} (hk:CutN qs cs bs hs d side c e) :
    vertsC d (sidesC d qs.length side) qs.length = side ∧ side.Pairwise (· < ·):=by
  have hdm:=h.dm
  unfold okDm at hdm
  have hvs:=h.vs
  obtain ⟨N,hN⟩:∃ N:Nat,vsN qs d = N:=⟨(vsN qs d).toNat,by omega⟩
  have hs:side.Pairwise (· < ·) ∧ ∀ v ∈ side,0 ≤ v ∧ v < qs.length * wd d:=by
    rcases hk with ⟨_,_,rfl,_⟩ | ⟨_,_,F,B,_,_,rfl,_⟩
    · exact ⟨.nil,by simp⟩
    · refine ⟨sideOf_asc _ _,fun v hv=>?_⟩
      obtain ⟨u,rfl,hu,_⟩:=mem_sideOf.1 hv
      unfold vsN at hvs hN hu;omega
  obtain ⟨a1,a2⟩:=vertsC_ok (d:=d) (by omega) (by omega) (side:=side) (Nat.le_refl qs.length)
  refine ⟨asc_ext a1 hs.1 (fun v=>?_),hs.1⟩
  rw [a2]
  exact ⟨fun h=>h.1,fun hv=>⟨hv,hs.2 v hv⟩⟩
theorem cut_spec (h:VOk qs cs bs hs d) (hv:validT qs cs bs hs d = true) {F side:List Int} {m c:Int} (hm:MaxN qs cs bs hs d F m 0) (hk:CutN qs cs bs hs d side c 0):capacitySpec (vsN qs d) (arcsG qs cs bs hs d) side = (m,0):=by
  have h1:=cut_max h hv hm hk
  obtain ⟨_,rfl,k3,k4,k5,_⟩:=cut_facts h hv hm hk
  rw [capR_set h hv,if_pos ⟨k4,k5⟩] at h1
  have hchk:=h.chk
  have hsc:Go.Flow.sideChk (vsN qs d) none side = 0:=by
    rcases hk with ⟨a1,a2,_⟩ | ⟨_,_,F',B,_,_,rfl,_⟩
    · exact absurd a2.symm a1
    · have hvs:=h.vs
      have e:vsN qs d = ((vsN qs d).toNat:Int):=by omega
      rw [e];exact sideOf_chk B _
  unfold capacitySpec
  rw [if_neg (fun hh=>hh hchk),if_neg (fun hh=>hh hsc)]
  exact h1
end Go.Step
/- Arcs by their numbers; what is free at a node. No program in sight. No conditions. -/
namespace Go.Step
theorem rngI_split {a b c:Int} (h1:a ≤ b) (h2:b ≤ c):rngI a c = rngI a b ++ rngI b c:=by
  obtain ⟨k,hk⟩:∃ k:Nat,c = b + k:=⟨(c - b).toNat,by omega⟩
  subst hk;clear h2
  induction k with
  | zero=>rw [show b + ((0:Nat):Int) = b by omega,rngI_nil (Int.le_refl b),List.append_nil]
  | succ k ih=>rw [show b + ((k + 1:Nat):Int) = b + (k:Int) + 1 by omega,rngI_snoc (by omega),rngI_snoc (by omega),ih,List.append_assoc]
section
variable {qs:List Int} {cs:List Ct} {bs:List Bk} {hs:List Hd} {d:Dm}
end
end Go.Step
/- The capacity of a cut's vertices. -/
namespace Go.Proofs.YtphehihohghfoaaGreat
open Go.Eng Go.Step Go.Flow
set_option maxRecDepth 100000
set_option maxHeartbeats 4000000

theorem cuAtJ_get {c:Cu} {k:Nat} {I:Iv} (h:c[k]? = some I):cuAt c k = I:=by
 unfold cuAt
 simp [h]
set_option maxHeartbeats 32000000 in
theorem capacity54_spec {ρ τ σ υ:PH} {pq pc pb ph:Option Addr} {kq kc kb kh:Nat} {qs:List Int} {cs:List Ct} {bs:List Bk} {hs:List Hd} (hT:TbAt ρ τ σ υ pq pc pb ph kq kc kb kh qs cs bs hs) (d:Dm) (γ κ:PH) (v:Value) (L:List Sq) (hC:CutL γ κ v L) {F side:List Int} {m c:Int} (hv:validT qs cs bs hs d = true) (hm:MaxN qs cs bs hs d F m 0) (hk:CutN qs cs bs hs d side c 0) (hL:cuL L = sidesC d qs.length side) :
  Ans Tryz.prog (fv 18) [.agg #[.slice pq qs.length kq,.slice pc cs.length kc,.slice pb bs.length kb,.slice ph hs.length kh],.agg #[int d.s,int d.d,int d.v,int d.r,int d.e],v] [ρ,τ,σ,υ,γ,κ] (fun r=>r = .tuple #[int m,.bool true]):=by
 have h:=vok hv
 have hdm:=h.dm
 unfold okDm at hdm
 have hnq:=h.nq
 have hvs:=h.vs
 obtain ⟨hve,hasc⟩:=cut_verts h hk
 have hcs:=cut_spec h hv hm hk
 obtain ⟨_,_,_,hin,hout,hsl⟩:=cut_facts h hv hm hk
 have hLl:L.length = qs.length:=by
  have:=congrArg List.length hL
  rwa [List.length_map,sidesC_len] at this
 obtain ⟨q,kk,rfl,hr⟩:=hC.1.val encQ_len
 have hpre:∀ (a b:List Int),side = a ++ b → a.length ≤ 1616:=fun a b e=>by
  have:=congrArg List.length e
  rw [List.length_append] at this;omega
 refine spec_in (cap:=[]) Tryz.func18 rfl rfl Tryz.ntmps18 rfl envZ (fun N β=>?_)
 refine AC ?_;refine AA ?_;refine BH (BK rfl) rfl rfl rfl ?_;rintro _ _ ⟨b1,rfl,rfl⟩;refine AR (ρ:=sng b1 _) takeZ ?_
 have ct:RdN (sng b1 (.cells #[.slice pq qs.length kq,.slice pc cs.length kc,.slice pb bs.length kb,.slice ph hs.length kh] 29 (0,0))) b1 0 [.slice pq qs.length kq,.slice pc cs.length kc,.slice pb bs.length kb,.slice ph hs.length kh]:=rdN_sng (vs:=[.slice pq qs.length kq,.slice pc cs.length kc,.slice pb bs.length kb,.slice ph hs.length kh])
 have ct0:rdc (sng b1 (.cells #[.slice pq qs.length kq,.slice pc cs.length kc,.slice pb bs.length kb,.slice ph hs.length kh] 29 (0,0))) b1 0 = some (.slice pq qs.length kq):=by rw [rdc_sng]; rfl
 have ct1:rdc (sng b1 (.cells #[.slice pq qs.length kq,.slice pc cs.length kc,.slice pb bs.length kb,.slice ph hs.length kh] 29 (0,0))) b1 1 = some (.slice pc cs.length kc):=by rw [rdc_sng]; rfl
 have ct2:rdc (sng b1 (.cells #[.slice pq qs.length kq,.slice pc cs.length kc,.slice pb bs.length kb,.slice ph hs.length kh] 29 (0,0))) b1 2 = some (.slice pb bs.length kb):=by rw [rdc_sng]; rfl
 have ct3:rdc (sng b1 (.cells #[.slice pq qs.length kq,.slice pc cs.length kc,.slice pb bs.length kb,.slice ph hs.length kh] 29 (0,0))) b1 3 = some (.slice ph hs.length kh):=by rw [rdc_sng]; rfl
 have ctp:RdP (sng b1 (.cells #[.slice pq qs.length kq,.slice pc cs.length kc,.slice pb bs.length kb,.slice ph hs.length kh] 29 (0,0))) b1 0 [.slice pq qs.length kq,.slice pc cs.length kc]:=rdP_sng (xs:=[.slice pq qs.length kq,.slice pc cs.length kc,.slice pb bs.length kb,.slice ph hs.length kh]) rfl
 refine BH (BK rfl) rfl rfl rfl ?_;rintro _ _ ⟨b2,rfl,rfl⟩;refine AR (ρ:=sng b2 _) takeZ ?_
 have cd:RdN (sng b2 (.cells #[int d.s,int d.d,int d.v,int d.r,int d.e] 31 (0,0))) b2 0 [int d.s,int d.d,int d.v,int d.r,int d.e]:=rdN_sng (vs:=[int d.s,int d.d,int d.v,int d.r,int d.e])
 have cd0:rdc (sng b2 (.cells #[int d.s,int d.d,int d.v,int d.r,int d.e] 31 (0,0))) b2 0 = some (int d.s):=by rw [rdc_sng]; rfl
 have cd1:rdc (sng b2 (.cells #[int d.s,int d.d,int d.v,int d.r,int d.e] 31 (0,0))) b2 1 = some (int d.d):=by rw [rdc_sng]; rfl
 have cd2:rdc (sng b2 (.cells #[int d.s,int d.d,int d.v,int d.r,int d.e] 31 (0,0))) b2 2 = some (int d.v):=by rw [rdc_sng]; rfl
 have cd3:rdc (sng b2 (.cells #[int d.s,int d.d,int d.v,int d.r,int d.e] 31 (0,0))) b2 3 = some (int d.r):=by rw [rdc_sng]; rfl
 have cd4:rdc (sng b2 (.cells #[int d.s,int d.d,int d.v,int d.r,int d.e] 31 (0,0))) b2 4 = some (int d.e):=by rw [rdc_sng]; rfl
 refine BX ?_;refine AD ?_;refine AD ?_;refine AE ?_;refine AC ?_;refine AA ?_;refine AT ?_;refine AT ?_;refine BZ (Graph_spec hT d) rfl rfl rdZ rfl rfl ?_;rintro _ σg hg;rw [if_pos hv] at hg
 obtain ⟨ug,rfl,hOg⟩:=hg
 have hAt:ArcsAt σg ug (arcsG qs cs bs hs d):=hOg.at
 obtain ⟨pg,kg,rfl⟩:=hOg.form
 have hEl:=ea_len qs cs bs hs d h
 have hAl:(arcsG qs cs bs hs d).length = (arcsE qs cs bs hs d).length:=by unfold arcsG; rw [List.length_map]
 refine AR (ρ:=σg) takeZ ?_;refine AB ?_;refine AO ?_;refine AO ?_;refine AX ?_; rintro _ _ ⟨b,rfl,rfl⟩;refine AV ?_; rintro _ _ ⟨rfl,rfl⟩;refine AD ?_;refine AE ?_;refine AC ?_;refine AA ?_;refine AD ?_;refine AE ?_;refine AC ?_;refine AC ?_;refine AA ?_;refine AB ?_;refine AW ?_;refine AB ?_;refine AE ?_;refine AP ?_
 revert b; intro b8
 refine AR (ρ:=sng b8 _) takeZ ?_
 have c8:RdN (sng b8 (.cells #[int (vsN qs d),.slice pg (arcsG qs cs bs hs d).length kg,int (vtx d d.s d.r),int (vtx d d.d d.e)] 69 (0,0))) b8 0 [int (vsN qs d),.slice pg (arcsG qs cs bs hs d).length kg,int (vtx d d.s d.r),int (vtx d d.d d.e)]:=rdN_sng (vs:=[int (vsN qs d),.slice pg (arcsG qs cs bs hs d).length kg,int (vtx d d.s d.r),int (vtx d d.d d.e)])
 have c80:rdc (sng b8 (.cells #[int (vsN qs d),.slice pg (arcsG qs cs bs hs d).length kg,int (vtx d d.s d.r),int (vtx d d.d d.e)] 69 (0,0))) b8 0 = some (int (vsN qs d)):=c8.get0
 have c81:rdc (sng b8 (.cells #[int (vsN qs d),.slice pg (arcsG qs cs bs hs d).length kg,int (vtx d d.s d.r),int (vtx d d.d d.e)] 69 (0,0))) b8 1 = some (.slice pg (arcsG qs cs bs hs d).length kg):=c8.get (j:=1) rfl
 have c82:rdc (sng b8 (.cells #[int (vsN qs d),.slice pg (arcsG qs cs bs hs d).length kg,int (vtx d d.s d.r),int (vtx d d.d d.e)] 69 (0,0))) b8 2 = some (int (vtx d d.s d.r)):=c8.get (j:=2) rfl
 have c83:rdc (sng b8 (.cells #[int (vsN qs d),.slice pg (arcsG qs cs bs hs d).length kg,int (vtx d d.s d.r),int (vtx d d.d d.e)] 69 (0,0))) b8 3 = some (int (vtx d d.d d.e)):=c8.get (j:=3) rfl
 skip
 refine BA [3,4,8,9,26,27] (X:=Nat × Value × PH) (0,.slice none 0 0,emp) (fun z=>z.1 ≤ L.length ∧ OwnS 3 1 z.2.1 (vertsC d (cuL L) z.1).length ((vertsC d (cuL L) z.1).flatMap Eng.encI) z.2.2) (fun z=>[(28,int z.1),(10,z.2.1)]) (fun z=>[z.2.2]) (fun z=>L.length - z.1) pickZ ⟨by dsimp only; omega,OwnS.nil _ _⟩ covZ selZ ?_
 rintro ⟨k,u,σo⟩ ⟨hk1,hO⟩
 dsimp only at hk1 hO ⊢
 by_cases hlt:k < L.length
 rotate_left
 ·have hke:k = qs.length:=by omega
  rw [hke,hL,hve] at hO
  have hso:sortd side = side:=List.mergeSort_of_pairwise (hasc.imp (fun {x y} h=>decide_eq_true (Int.le_of_lt h)))
  refine AC ?_;refine AA ?_;refine AZ ?_;refine AE ?_;refine AC ?_;refine AM rfl ?_;refine A7 rfl ?_;refine AC ?_;refine AA ?_;refine AB ?_
  refine BE (sortI_spec σo _ side hO (by omega)) rfl rfl takesZ (fun τ hτ=>by simp at hτ) rfl rfl ?_
  rintro _ _ ⟨rfl,σ2,hO2,rfl⟩;rw [hso] at hO2
  have hI:IntsAt σ2 u side:=hO2.at
  obtain ⟨pu,ku,rfl⟩:=hO2.form
  refine AR (ρ:=σ2) takeZ ?_
  have hcap:=flowCapacity_spec σg σ2 (.slice pg (arcsG qs cs bs hs d).length kg) (.slice pu side.length ku) (vsN qs d) (arcsG qs cs bs hs d) side hAt hI (by omega) (by omega)
  rw [hcs] at hcap
  dsimp only at hcap
  have hk1:=containsInt_spec σ2 _ side (vtx d d.s d.r) hI (by omega)
  have hk2:=containsInt_spec σ2 _ side (vtx d d.d d.e) hI (by omega)
  rw [decide_eq_true hin] at hk1;rw [decide_eq_false hout] at hk2;refine AE ?_;refine AC ?_;refine AA ?_;refine AG ?_;refine AF ?_;refine AG ?_;refine AF ?_;refine AB ?_;refine A2 hcap rfl rfl rdZ rfl rfl ?_;rintro _ rfl;refine AB ?_;refine AO ?_;refine AO ?_;refine AD ?_;refine AD ?_;refine AE ?_;refine AC ?_;refine AA ?_;refine AB ?_;refine AB ?_;refine CI ?_;refine AB ?_;refine AB ?_;refine CI ?_;refine AL ?_;refine AB ?_;refine AB ?_;refine AG ?_;refine AF ?_;refine A2 hk1 rfl rfl rdZ rfl rfl ?_;rintro _ rfl;refine AL ?_;refine AB ?_;refine AB ?_;refine AG ?_;refine AF ?_;refine A2 hk2 rfl rfl rdZ rfl rfl ?_;rintro _ rfl;refine A9 ?_;refine AL ?_;refine AD ?_;refine AD ?_;refine AE ?_;exact AI (res2 rfl rfl rfl) rsubZ selZ ⟨rfl,rfl⟩
 have hx:=List.getElem?_eq_getElem hlt
 have hcu:(cuL L)[k]? = some (L[k]).2:=by rw [List.getElem?_map,hx]; rfl
 obtain ⟨hsp,hspl⟩:=hC.2 _ (List.mem_of_getElem? hx)
 have hnext:vertsC d (cuL L) (k + 1) = vertsC d (cuL L) k ++ vertsI d k (L[k]).2:=by
  show vertsC d (cuL L) k ++ vertsI d k (cuAt (cuL L) k) = _
  rw [cuAtJ_get hcu]
 have hsi:(L[k]).2 = sideI d side k:=by
  rw [← cuAtJ_get hcu,hL,sidesC_at d side (by omega)]
 have hpk:∃ b,side = vertsC d (cuL L) (k + 1) ++ b:=by
  have hmono:∀ j:Nat,∃ b,vertsC d (cuL L) (k + 1 + j) = vertsC d (cuL L) (k + 1) ++ b:=fun j=>by
   induction j with
   | zero=>exact ⟨[],by simp⟩
   | succ j ih =>
    obtain ⟨b,e⟩:=ih
    exact ⟨b ++ vertsI d (k + 1 + j:Nat) (cuAt (cuL L) (k + 1 + j:Nat)),by rw [← List.append_assoc,← e]; rfl⟩
  obtain ⟨b,e⟩:=hmono (qs.length - (k + 1))
  rw [show k + 1 + (qs.length - (k + 1)) = qs.length by omega] at e
  rw [hL] at e;rw [hve,← hL] at e;exact ⟨b,e⟩
 obtain ⟨bc,oc,rfl,hrd⟩:=hr k _ hx
 have r0:rdc γ bc (oc + k * 1) = some (.slice L[k].1.1 L[k].2.length L[k].1.2):=by
  have:=hrd 0 _ rfl
  rwa [Nat.add_zero] at this
 rw [Nat.mul_one] at r0
 have hrI:=rowN encS_len hsp
 clear hrd hcu
 generalize L[k].1.1 = pI at r0 hsp hrI
 generalize L[k].1.2 = kI at r0 hsp
 generalize L[k].2 = I at hnext hsi r0 hsp hrI hspl
 have hnm:=(sideI_ok d side k).1
 have hinn:=sideI_in (d:=d) (by omega) side k
 rw [← hsi] at hnm hinn
 obtain ⟨brest,hrest⟩:=hpk
 refine AC ?_;refine AA ?_;refine BC ?_;refine AE ?_;refine AC ?_;refine AN rfl ?_;refine AK ?_;refine AC ?_;refine AP ?_;refine AC ?_;refine AA ?_;refine AB ?_;refine BQ ?_;refine AF ?_;refine AD ?_;refine AD ?_;refine AE ?_;refine AC ?_;refine AA ?_;refine AB ?_;refine AW ?_;refine AB ?_;refine AE ?_;refine AP ?_
 refine BA [3,4,8,9,26,27,28,11,33,34] (X:=Nat × Value × PH) (0,u,σo) (fun z=>z.1 ≤ I.length ∧ OwnS 3 1 z.2.1 (vertsC d (cuL L) k ++ vertsI d k (I.take z.1)).length ((vertsC d (cuL L) k ++ vertsI d k (I.take z.1)).flatMap Eng.encI) z.2.2) (fun z=>[(35,int z.1),(10,z.2.1)]) (fun z=>[z.2.2]) (fun z=>I.length - z.1) pickZ ⟨by dsimp only; omega,by dsimp only; rw [List.take_zero,vertsI_nil,List.append_nil]; exact hO⟩ covZ selZ ?_
 rintro ⟨j,u1,σ1⟩ ⟨hj1,hO1⟩
 dsimp only at hj1 hO1 ⊢
 by_cases hjl:j < I.length
 rotate_left
 ·have hje:j = I.length:=by omega
  rw [hje,List.take_length,← hnext] at hO1;refine AC ?_;refine AA ?_;refine AZ ?_;refine AE ?_;refine AC ?_;refine AM rfl ?_;refine A7 rfl ?_;refine A3 ?_;refine AA ?_;refine A8 ?_;refine AB ?_;refine AE ?_
  exact AY (k + 1,u1,σ1) ⟨by dsimp only; omega,hO1⟩ (by dsimp only; omega) covZ selZ
 have hy:=List.getElem?_eq_getElem hjl
 have hyi:=hinn _ (List.getElem_mem hjl)
 have hyn:=hnm.1 _ (List.getElem_mem hjl)
 obtain ⟨b6,o6,rfl,hRd6,y0,y1⟩:=spRow hrI hy
 have hnx:=vertsI_next d k hy
 have hpj:∃ b,side = vertsC d (cuL L) k ++ (vertsI d k (I.take (j + 1)) ++ b):=by
  refine ⟨vertsI d k (I.drop (j + 1)) ++ brest,?_⟩
  have e:vertsI d k I = vertsI d k (I.take (j + 1)) ++ vertsI d k (I.drop (j + 1)):=by
   unfold vertsI tickL;rw [← List.map_append,← List.flatMap_append,List.take_append_drop]
  rw [← List.append_assoc (vertsI d k (I.take (j + 1))),← e,hrest,hnext,List.append_assoc]
 obtain ⟨brj,hrj⟩:=hpj
 generalize I[j] = y at hy hyi hyn hRd6 y0 y1 hnx
 clear y0 y1
 rw [show max y.1 0 = y.1 by omega,show min y.2 (d.e + 1) = y.2 by omega] at hnx
 rw [hnx] at hrj;refine AC ?_;refine AA ?_;refine BC ?_;refine AE ?_;refine AC ?_;refine AN rfl ?_;refine AK ?_;refine AC ?_;refine AP ?_;refine AC ?_;refine AA ?_;refine BB ?_;refine AT ?_;refine AX ?_; rintro _ _ ⟨b,rfl,rfl⟩;refine AV ?_; rintro _ _ ⟨rfl,rfl⟩;refine AE ?_;refine AC ?_;refine AA ?_;refine AG ?_;refine AF ?_;refine DY ?_;refine AD ?_;refine AE ?_;refine AP ?_
 revert b; intro b14
 rw [show max y.1 0 = y.1 by omega]
 refine BA [3,4,8,9,26,27,28,11,33,34,35,14] (X:=Nat × Value × PH) (0,u1,σ1) (fun z=>(z.1:Int) ≤ y.2 - y.1 ∧ OwnS 3 1 z.2.1 (vertsC d (cuL L) k ++ (vertsI d k (I.take j) ++ (rngI y.1 (y.1 + z.1)).map (vtx d k))).length ((vertsC d (cuL L) k ++ (vertsI d k (I.take j) ++ (rngI y.1 (y.1 + z.1)).map (vtx d k))).flatMap Eng.encI) z.2.2) (fun z=>[(15,int (y.1 + z.1)),(10,z.2.1)]) (fun z=>[z.2.2,sng b14 (.cells #[int y.1,int y.2] 93 (0,0))]) (fun z=>(y.2 - y.1).toNat - z.1) pickZ ⟨by dsimp only; omega,by dsimp only; rw [rngI_nil (by omega),List.map_nil,List.append_nil]; exact hO1⟩ ?_ selZ ?_
 ·rw [show y.1 + ((0:Nat):Int) = y.1 by omega]
  exact covZ
 rintro ⟨i,u2,σ2⟩ ⟨hi1,hO2⟩
 dsimp only at hi1 hO2 ⊢
 by_cases hil:(i:Int) < y.2 - y.1
 rotate_left
 ·have hie:y.1 + (i:Int) = y.2:=by omega
  rw [hie,← hnx] at hO2;refine AC ?_;refine AC ?_;refine AA ?_;refine AB ?_;refine AG ?_;refine AF ?_;refine AZ ?_;refine AB ?_;refine AH rfl rfl rfl ?_;refine AH rfl rfl rfl ?_;refine AH rfl rfl rfl ?_;refine AH rfl rfl rfl ?_;refine AJ ?_;refine AE ?_;refine AM rfl ?_;refine A7 rfl ?_;refine A3 ?_;refine AA ?_;refine A8 ?_;refine AB ?_;refine AE ?_
  exact AY (j + 1,u2,σ2) ⟨by dsimp only; omega,hO2⟩ (by dsimp only; omega) covZ selZ
 have hV:=Vertex_spec hT d k (y.1 + i)
 unfold vertexR at hV
 rw [if_pos hv,if_pos ⟨⟨by omega,by omega⟩,by omega,by omega⟩] at hV
 dsimp only at hV
 have hsn:=rngI_snoc (a:=y.1) (b:=y.1 + i) (by omega)
 have hlen:(vertsC d (cuL L) k ++ (vertsI d k (I.take j) ++ (rngI y.1 (y.1 + i)).map (vtx d k))).length ≤ 1616:=by
  refine hpre _ ((rngI (y.1 + i) y.2).map (vtx d k) ++ brj) ?_
  rw [hrj,rngI_split (show y.1 ≤ y.1 + i by omega) (show y.1 + i ≤ y.2 by omega),List.map_append]
  simp only [List.append_assoc]
 have hvx:=vtx_lt (d:=d) (n:=k) (t:=y.1 + i) (N:=qs.length) (by omega) (by omega) (by omega) (by omega)
 have hvn:vsN qs d = qs.length * wd d:=rfl
 generalize hX:vertsC d (cuL L) k ++ (vertsI d k (I.take j) ++ (rngI y.1 (y.1 + i)).map (vtx d k)) = X at hO2 hlen
 refine AC ?_;refine AC ?_;refine AA ?_;refine AB ?_;refine AG ?_;refine AF ?_;refine BC ?_;refine AB ?_;refine AB ?_;refine AG ?_;refine AF ?_;refine CJ ?_;refine AL ?_;refine AE ?_;refine AN rfl ?_;refine AK ?_;refine AC ?_;refine AP ?_;refine AC ?_;refine AA ?_;refine AT ?_;refine AT ?_;refine AB ?_;refine AB ?_;refine A2 hV rfl rfl rdZ rfl rfl ?_;rintro _ rfl;refine AB ?_;refine AO ?_;refine AO ?_;refine AD ?_;refine AD ?_;refine AE ?_;refine AC ?_;refine AC ?_;refine AA ?_;refine AB ?_;refine BF ?_;refine AE ?_;refine AM rfl ?_;refine AK ?_;refine AA ?_;refine AB ?_;refine AB ?_;refine BI ?_; rintro _ _ ⟨b,rfl,rfl⟩
 refine BH (B5 (by_:=8) (s:=1) (news:=[int (vtx d k (y.1 + i))]) rfl rfl rfl rfl rfl rfl rfl hO2 takeZ (cells_own memZ) rfl (by (repeat (first | exact (fun v hv=>absurd hv List.not_mem_nil) | (refine List.forall_mem_cons.2 ⟨?_,?_⟩; (focus (first | exact rfl | assumption))))); first | done | fail) (by omega) (by simp only [maxLen]; omega) (by omega)) rfl rfl rfl ?_
 rintro u3 _ ⟨σ3,hO3,rfl⟩;refine AD ?_;refine AE ?_;refine A3 ?_;refine AA ?_;refine AB ?_;refine CK ?_;refine AD ?_;refine AE ?_
 refine AY (i + 1,u3,σ3) ⟨by dsimp only; omega,?_⟩ (by dsimp only; omega) ?_ selZ
 ·dsimp only
  rw [show y.1 + ((i + 1:Nat):Int) = y.1 + i + 1 by omega,hsn,List.map_append,← List.append_assoc (vertsI d k (I.take j)),← List.append_assoc (vertsC d (cuL L) k),hX]
  rw [List.length_append,List.flatMap_append];exact hO3
 ·dsimp only
  rw [show y.1 + ((i + 1:Nat):Int) = y.1 + i + 1 by omega]
  exact covZ
end Go.Proofs.YtphehihohghfoaaGreat
/- Law PlannerProves. -/
namespace Go.Proofs.YtphehihohghfoaaGreat
open Go.Eng Go.Step
set_option maxRecDepth 100000
set_option maxHeartbeats 4000000

theorem valid_ends {qs:List Int} {cs:List Ct} {bs:List Bk} {hs:List Hd} {d:Dm} (h:validT qs cs bs hs d = true):∀ c ∈ cs,c.f ≠ c.t:=fun c hc=>by
 obtain ⟨hcs0,_⟩:=valid_ok h
 have h1:=(hcs0 c hc).1
 unfold chkCt at h1
 split at h1
 ·omega
 split at h1
 ·omega
 ·assumption
set_option maxHeartbeats 64000000 in
theorem proves_law {ρ τ σ υ:PH} {pq pc pb ph:Option Addr} {kq kc kb kh:Nat} {qs:List Int} {cs:List Ct} {bs:List Bk} {hs:List Hd} (hT:TbAt ρ τ σ υ pq pc pb ph kq kc kb kh qs cs bs hs) (d:Dm):Ans Tryz.prog (fv 4) [.agg #[.slice pq qs.length kq,.slice pc cs.length kc,.slice pb bs.length kb,.slice ph hs.length kh],.agg #[int d.s,int d.d,int d.v,int d.r,int d.e]] [ρ,τ,σ,υ] (fun r=>r = .bool true):=by
 have hf:=fine54_spec hT d
 refine spec_in (cap:=[]) Tryz.func4 rfl rfl Tryz.ntmps4 rfl envZ (fun N β=>?_)
 refine AC ?_;refine AA ?_;refine BH (BK rfl) rfl rfl rfl ?_;rintro _ _ ⟨b1,rfl,rfl⟩;refine AR (ρ:=sng b1 _) takeZ ?_
 have ct:RdN (sng b1 (.cells #[.slice pq qs.length kq,.slice pc cs.length kc,.slice pb bs.length kb,.slice ph hs.length kh] 29 (0,0))) b1 0 [.slice pq qs.length kq,.slice pc cs.length kc,.slice pb bs.length kb,.slice ph hs.length kh]:=rdN_sng (vs:=[.slice pq qs.length kq,.slice pc cs.length kc,.slice pb bs.length kb,.slice ph hs.length kh])
 have ct0:rdc (sng b1 (.cells #[.slice pq qs.length kq,.slice pc cs.length kc,.slice pb bs.length kb,.slice ph hs.length kh] 29 (0,0))) b1 0 = some (.slice pq qs.length kq):=by rw [rdc_sng]; rfl
 have ct1:rdc (sng b1 (.cells #[.slice pq qs.length kq,.slice pc cs.length kc,.slice pb bs.length kb,.slice ph hs.length kh] 29 (0,0))) b1 1 = some (.slice pc cs.length kc):=by rw [rdc_sng]; rfl
 have ct2:rdc (sng b1 (.cells #[.slice pq qs.length kq,.slice pc cs.length kc,.slice pb bs.length kb,.slice ph hs.length kh] 29 (0,0))) b1 2 = some (.slice pb bs.length kb):=by rw [rdc_sng]; rfl
 have ct3:rdc (sng b1 (.cells #[.slice pq qs.length kq,.slice pc cs.length kc,.slice pb bs.length kb,.slice ph hs.length kh] 29 (0,0))) b1 3 = some (.slice ph hs.length kh):=by rw [rdc_sng]; rfl
 have ctp:RdP (sng b1 (.cells #[.slice pq qs.length kq,.slice pc cs.length kc,.slice pb bs.length kb,.slice ph hs.length kh] 29 (0,0))) b1 0 [.slice pq qs.length kq,.slice pc cs.length kc]:=rdP_sng (xs:=[.slice pq qs.length kq,.slice pc cs.length kc,.slice pb bs.length kb,.slice ph hs.length kh]) rfl
 refine BH (BK rfl) rfl rfl rfl ?_;rintro _ _ ⟨b2,rfl,rfl⟩;refine AR (ρ:=sng b2 _) takeZ ?_
 have cd:RdN (sng b2 (.cells #[int d.s,int d.d,int d.v,int d.r,int d.e] 31 (0,0))) b2 0 [int d.s,int d.d,int d.v,int d.r,int d.e]:=rdN_sng (vs:=[int d.s,int d.d,int d.v,int d.r,int d.e])
 have cd0:rdc (sng b2 (.cells #[int d.s,int d.d,int d.v,int d.r,int d.e] 31 (0,0))) b2 0 = some (int d.s):=by rw [rdc_sng]; rfl
 have cd1:rdc (sng b2 (.cells #[int d.s,int d.d,int d.v,int d.r,int d.e] 31 (0,0))) b2 1 = some (int d.d):=by rw [rdc_sng]; rfl
 have cd2:rdc (sng b2 (.cells #[int d.s,int d.d,int d.v,int d.r,int d.e] 31 (0,0))) b2 2 = some (int d.v):=by rw [rdc_sng]; rfl
 have cd3:rdc (sng b2 (.cells #[int d.s,int d.d,int d.v,int d.r,int d.e] 31 (0,0))) b2 3 = some (int d.r):=by rw [rdc_sng]; rfl
 have cd4:rdc (sng b2 (.cells #[int d.s,int d.d,int d.v,int d.r,int d.e] 31 (0,0))) b2 4 = some (int d.e):=by rw [rdc_sng]; rfl
 refine AD ?_;refine AE ?_;refine AC ?_;refine AC ?_;refine AA ?_;refine AT ?_;refine AT ?_;refine A2 hf rfl rfl rdZ rfl rfl ?_;rintro _ ⟨fb,rfl,hfb⟩
 cases fb with
 | false =>
  refine A9 ?_;refine AE ?_;refine AN rfl ?_;refine AC ?_;refine AA ?_;refine A2 awake54_spec rfl rfl rdZ rfl rfl ?_;rintro _ rfl;refine AD ?_;refine AE ?_;exact AI (res1 rfl rfl) rsubZ selZ ⟨rfl,rfl⟩
 | true =>
 have hv:=hfb rfl
 have h:=vok hv
 have hdm:=h.dm
 unfold okDm at hdm
 have hne:=valid_ends hv
 have hnq:=h.nq
 have hnf:¬ validT qs cs bs hs d = false:=by rw [hv]; simp
 refine A9 ?_;refine AE ?_;refine AM rfl ?_;refine AK ?_;refine AC ?_;refine AA ?_;refine AT ?_;refine AT ?_;refine A2 (Most_spec hT d) rfl rfl rdZ rfl rfl ?_;rintro _ (⟨_,F,m,hm,rfl⟩ | ⟨h1,_⟩)
 rotate_left
 ·exact absurd h1 hnf
 refine AB ?_;refine AO ?_;refine AO ?_;refine AD ?_;refine AD ?_;refine AE ?_;refine AC ?_;refine AA ?_;refine AT ?_;refine AT ?_;refine BE (Plan_spec hT d) rfl rfl Takes.nil rdZ rfl rfl ?_;rintro _ _ (⟨_,acc,vol,ss,c,a,σ1,σ2,σ3,rfl,rfl,hP,p1,k1,L,p2,k2,rfl,hS,hC,hL⟩ | ⟨h1,_⟩)
 rotate_left
 ·exact absurd h1 hnf
 refine AR (ρ:=σ1) takeZ ?_;refine AR (ρ:=σ2) takeZ ?_;refine AR (ρ:=σ3) takeZ ?_
 have hlen:=planned_len h hP
 obtain ⟨F2,m2,hm2,hP⟩:=hP
 obtain ⟨eF,em,_⟩:=hm.uniq hm2
 rw [← em,← eF] at hP;clear hm2 em eF
 rcases hP with ⟨hlt,rfl,hvol,rfl,side,kc0,hk,rfl⟩ | ⟨hle,rfl,rfl,rfl,ps,hp,hss⟩
 ·replace hvol:=hvol.symm
  subst hvol
  have hLl:L.length = qs.length:=by
   have:=congrArg List.length hL
   rwa [List.length_map,sidesC_len] at this
  have hk0:CutN qs cs bs hs d side kc0 0:=hk
  have hcp:=capacity54_spec hT d σ2 σ3 _ L hC hv hm hk0 hL
  rw [show ([]:List Sh).length = 0 from rfl] at *
  refine AB ?_;refine AO ?_;refine AO ?_;refine AX ?_; rintro _ _ ⟨b,rfl,rfl⟩;refine AV ?_; rintro _ _ ⟨rfl,rfl⟩;refine AD ?_;refine AE ?_;refine AC ?_;refine AC ?_;refine AA ?_;refine AB ?_;refine BF ?_;refine AB ?_;refine AB ?_;refine BF ?_;refine AJ ?_;refine AB ?_;refine AG ?_;refine AF ?_;refine AG ?_;refine AF ?_;refine AB ?_;refine CN ?_
  revert b; intro b7
  refine AR (ρ:=sng b7 _) takeZ ?_
  have c7:RdN (sng b7 (.cells #[(.bool false),int m,.slice p1 0 k1,.slice p2 L.length k2] 41 (0,0))) b7 0 [(.bool false),int m,.slice p1 0 k1,.slice p2 L.length k2]:=rdN_sng (vs:=[(.bool false),int m,.slice p1 0 k1,.slice p2 L.length k2])
  have c70:rdc (sng b7 (.cells #[(.bool false),int m,.slice p1 0 k1,.slice p2 L.length k2] 41 (0,0))) b7 0 = some ((.bool false)):=by rw [rdc_sng]; rfl
  have c71:rdc (sng b7 (.cells #[(.bool false),int m,.slice p1 0 k1,.slice p2 L.length k2] 41 (0,0))) b7 1 = some (int m):=by rw [rdc_sng]; rfl
  have c72:rdc (sng b7 (.cells #[(.bool false),int m,.slice p1 0 k1,.slice p2 L.length k2] 41 (0,0))) b7 2 = some (.slice p1 0 k1):=by rw [rdc_sng]; rfl
  have c73:rdc (sng b7 (.cells #[(.bool false),int m,.slice p1 0 k1,.slice p2 L.length k2] 41 (0,0))) b7 3 = some (.slice p2 L.length k2):=by rw [rdc_sng]; rfl
  focus ((refine' CD _ rfl rfl rfl _; rotate_left; (apply EY; exact rfl; exact rfl; exact rfl)))
  refine AJ ?_;refine AE ?_;refine AM rfl ?_;refine AK ?_;refine AC ?_;refine AC ?_;refine AA ?_;refine AG ?_;refine AF ?_;refine A9 ?_;refine AE ?_;refine AN rfl ?_;refine AC ?_;refine AA ?_;refine AT ?_;refine AT ?_;refine AG ?_;refine AF ?_;refine A2 hcp rfl rfl rdZ rfl rfl ?_;rintro _ rfl;refine AB ?_;refine AO ?_;refine AO ?_;refine AD ?_;refine AD ?_;refine AE ?_;refine AC ?_;refine AA ?_;refine AB ?_;refine AB ?_;refine AB ?_;refine AG ?_;refine AF ?_;refine CI ?_;refine AL ?_;refine AB ?_;refine AB ?_;refine AB ?_;refine CI ?_;refine AL ?_;refine AB ?_;refine AB ?_;refine AG ?_;refine AF ?_;refine BC ?_;refine AL ?_;refine AB ?_;refine AG ?_;refine AF ?_;refine AW ?_;refine CI ?_;refine AL ?_;refine AB ?_;refine AG ?_;refine AF ?_;refine AW ?_;refine AG ?_;refine AG ?_;refine AF ?_;refine AW ?_;refine CI ?_;refine AL ?_;refine AB ?_;refine A2 awake54_spec rfl rfl rdZ rfl rfl ?_
  rintro _ rfl;refine AL ?_;refine AD ?_;refine AE ?_;exact AI (res1 rfl rfl) rsubZ selZ ⟨rfl,rfl⟩
 have hLl:L.length = 0:=by
  have:=congrArg List.length hL
  rwa [List.length_map] at this
 have hfl:=ships_part h hv hm hp hle
 rw [← hss] at hfl
 obtain ⟨g1,g2,g3,g4⟩:=brings_flow hv h hfl hne
 have hf1:=(ships_facts (flow_parts hfl).1).1
 have hbr:=fun n=>brings_spec σ1 hT _ ss n hS hlen.1 g4
 have hb1:=hbr d.d
 have hb2:=hbr d.s
 rw [g1] at hb1;rw [g2] at hb2
 have hrs:=rowN encX_len hS
 have hrc:=hT.rc
 clear hss;rw [hLl];refine AB ?_;refine AO ?_;refine AO ?_;refine AX ?_; rintro _ _ ⟨b,rfl,rfl⟩;refine AV ?_; rintro _ _ ⟨rfl,rfl⟩;refine AD ?_;refine AE ?_;refine AC ?_;refine AC ?_;refine AA ?_;refine AB ?_;refine BF ?_;refine AB ?_;refine AB ?_;refine BF ?_;refine AJ ?_;refine AB ?_;refine AG ?_;refine AF ?_;refine AG ?_;refine AF ?_;refine AB ?_;refine CJ ?_
 revert b; intro b7
 refine AR (ρ:=sng b7 _) takeZ ?_
 have c7:RdN (sng b7 (.cells #[(.bool true),int d.v,.slice p1 ss.length k1,.slice p2 0 k2] 41 (0,0))) b7 0 [(.bool true),int d.v,.slice p1 ss.length k1,.slice p2 0 k2]:=rdN_sng (vs:=[(.bool true),int d.v,.slice p1 ss.length k1,.slice p2 0 k2])
 have c70:rdc (sng b7 (.cells #[(.bool true),int d.v,.slice p1 ss.length k1,.slice p2 0 k2] 41 (0,0))) b7 0 = some ((.bool true)):=by rw [rdc_sng]; rfl
 have c71:rdc (sng b7 (.cells #[(.bool true),int d.v,.slice p1 ss.length k1,.slice p2 0 k2] 41 (0,0))) b7 1 = some (int d.v):=by rw [rdc_sng]; rfl
 have c72:rdc (sng b7 (.cells #[(.bool true),int d.v,.slice p1 ss.length k1,.slice p2 0 k2] 41 (0,0))) b7 2 = some (.slice p1 ss.length k1):=by rw [rdc_sng]; rfl
 have c73:rdc (sng b7 (.cells #[(.bool true),int d.v,.slice p1 ss.length k1,.slice p2 0 k2] 41 (0,0))) b7 3 = some (.slice p2 0 k2):=by rw [rdc_sng]; rfl
 focus ((refine' CD _ rfl rfl rfl _; rotate_left; (apply EY; exact rfl; exact rfl; exact rfl)))
 refine AJ ?_;refine AE ?_;refine AM rfl ?_;refine AK ?_;refine AC ?_;refine AC ?_;refine AA ?_;refine AG ?_;refine AF ?_;refine A9 ?_;refine AE ?_;refine AM rfl ?_;refine AK ?_;refine AC ?_;refine AC ?_
 refine A5 (.q 0 (.q 1 (.q 2 (.q 3 (.q 4 (.q 5 (.q 6 (.q 7 (.q 8 (.q 9 (.q 10 (.q 11 (.q 12 (.q 13 (.q 14 (.q 15 (.q 16 (.q 18 (.q 19 (.l 17 .e (.q 20 (.q 21 (.q 22 (.q 23 (.q 24 (.q 25 (.q 26 (.q 27 (.q 29 (.q 30 (.q 31 (.l 28 .e (.q 32 (.q 33 .nil)))))))))))))))))))))))))))))))))) [] rfl (by kernel_rfl) selZ ?_
 refine AU ?_;refine AQ ?_;refine AU ?_;refine AQ ?_;refine E0 ?_;refine AS ?_;refine AU ?_;refine AQ ?_;refine DX ?_;refine E0 ?_;refine BV ?_;refine AS ?_;refine BN ?_;refine AU ?_;refine AQ ?_;refine AU ?_;refine AQ ?_;refine AU ?_;refine AQ ?_;refine CP (CG rfl hb1 rfl rfl rdZ rfl rfl ?_);rintro _ rfl;refine E0 ?_;refine BV ?_;refine AS ?_;refine BN ?_;refine AU ?_;refine AQ ?_;refine AU ?_;refine AQ ?_;refine AU ?_;refine AQ ?_;refine zd_neg ?_;refine CP (CG rfl hb2 rfl rfl rdZ rfl rfl ?_);rintro _ rfl;refine E0 ?_;refine BV ?_;refine A6 ?_;refine AM rfl ?_;refine AK ?_;refine AC ?_;refine AC ?_;refine AA ?_;refine AG ?_;refine AG ?_;refine AF ?_;refine AW ?_;refine AB ?_;refine AE ?_;refine AP ?_
 refine BA [2,3,7,132] (0:Nat) (fun k=>k ≤ qs.length) (fun k=>[(133,int k)]) (fun _=>[]) (fun k=>qs.length - k) pickZ (by omega) covZ selZ ?_
 rintro k hk
 by_cases hlt:k < qs.length
 ·by_cases e1:(k:Int) = d.s
  ·refine AC ?_
   refine AA ?_;refine BC ?_;refine AE ?_;refine AC ?_;refine AN rfl ?_;refine AK ?_;refine AC ?_;refine AP ?_;refine AC ?_;refine AA ?_;refine AB ?_;refine AD ?_;refine AE ?_;refine AC ?_;refine AA ?_;refine AB ?_;refine AG ?_;refine AF ?_;refine BF ?_;refine AB ?_;refine AH rfl rfl rfl ?_;refine AH rfl rfl rfl ?_;refine AH rfl rfl rfl ?_;refine AH rfl rfl rfl ?_;refine AJ ?_;refine AB ?_;refine AH rfl rfl rfl ?_;refine AH rfl rfl rfl ?_;refine AH rfl rfl rfl ?_;refine AH rfl rfl rfl ?_;refine AH rfl rfl rfl ?_;refine AH rfl rfl rfl ?_;refine AJ ?_;refine AE ?_;refine AM rfl ?_;refine AK ?_;refine A3 ?_;refine AA ?_;refine A8 ?_;refine AB ?_;refine AE ?_
   exact AY (k + 1) (by omega) (by omega) covZ selZ
  by_cases e2:(k:Int) = d.d
  ·refine AC ?_
   refine AA ?_;refine BC ?_;refine AE ?_;refine AC ?_;refine AN rfl ?_;refine AK ?_;refine AC ?_;refine AP ?_;refine AC ?_;refine AA ?_;refine AB ?_;refine AD ?_;refine AE ?_;refine AC ?_;refine AA ?_;refine AB ?_;refine AG ?_;refine AF ?_;refine CF ?_;refine AB ?_;refine AB ?_;refine AG ?_;refine AF ?_;refine BF ?_;refine AL ?_;refine AB ?_;refine AH rfl rfl rfl ?_;refine AH rfl rfl rfl ?_;refine AH rfl rfl rfl ?_;refine AH rfl rfl rfl ?_;refine AH rfl rfl rfl ?_;refine AH rfl rfl rfl ?_;refine AJ ?_;refine AE ?_;refine AM rfl ?_;refine AK ?_;refine A3 ?_;refine AA ?_;refine A8 ?_;refine AB ?_;refine AE ?_
   exact AY (k + 1) (by omega) (by omega) covZ selZ
  have hbk:=hbr k
  rw [g3 k (by omega) (by omega) e1 e2] at hbk
  refine AC ?_;refine AA ?_;refine BC ?_;refine AE ?_;refine AC ?_;refine AN rfl ?_;refine AK ?_;refine AC ?_;refine AP ?_;refine AC ?_;refine AA ?_;refine AB ?_;refine AD ?_;refine AE ?_;refine AC ?_;refine AA ?_;refine AB ?_;refine AG ?_;refine AF ?_;refine CF ?_;refine AB ?_;refine AB ?_;refine AG ?_;refine AF ?_;refine CF ?_;refine AL ?_;refine AB ?_;refine AT ?_;refine AG ?_;refine AF ?_;refine AB ?_;refine A2 hbk rfl rfl rdZ rfl rfl ?_;rintro _ rfl;refine BF ?_;refine AL ?_;refine AE ?_;refine AM rfl ?_;refine AK ?_;refine A3 ?_;refine AA ?_;refine A8 ?_;refine AB ?_;refine AE ?_
  exact AY (k + 1) (by omega) (by omega) covZ selZ
 have hke:k = qs.length:=by omega
 refine AC ?_;refine AA ?_;refine AZ ?_;refine AE ?_;refine AC ?_;refine AM rfl ?_;refine A7 rfl ?_;refine AC ?_;refine AC ?_;refine AA ?_;refine AG ?_;refine AF ?_;refine AW ?_;refine AB ?_;refine AE ?_;refine AP ?_
 refine BA [2,3,7,156,157] (0:Nat) (fun j=>j ≤ ss.length) (fun j=>[(158,int j)]) (fun _=>[]) (fun j=>ss.length - j) pickZ (by omega) covZ selZ ?_
 rintro j hj
 by_cases hjl:j < ss.length
 rotate_left
 ·refine AC ?_
  refine AA ?_;refine AZ ?_;refine AE ?_;refine AC ?_;refine AM rfl ?_;refine A7 rfl ?_;refine AC ?_;refine AA ?_;refine A2 awake54_spec rfl rfl rdZ rfl rfl ?_;rintro _ rfl;refine AD ?_;refine AE ?_;exact AI (res1 rfl rfl) rsubZ selZ ⟨rfl,rfl⟩
 have hx:=List.getElem?_eq_getElem hjl
 obtain ⟨y,t1,_,t3,t4,t5,t6,t7,t8,t9⟩:=ship1_tests (hf1 _ (List.getElem_mem hjl))
 have hyo:=h.ct y (List.mem_of_getElem? t1)
 obtain ⟨b8,o8,rfl,hrd8,_⟩:=shRow hrs hx
 generalize ss[j] = x at hx t1 t3 t4 t5 t6 t7 t8 t9 hrd8
 obtain ⟨i,hi⟩:=Int.eq_ofNat_of_zero_le t3.1
 have hil:i < cs.length:=by omega
 rw [hi,Int.toNat_natCast] at t1
 obtain ⟨b9,o9,ec,hrd9⟩:=ctRow hrc t1
 obtain ⟨xc,xt,xn⟩:=x
 dsimp only at hi t3 t4 t5 t6 t7 t8 t9 hrd8
 subst hi;subst ec;refine AC ?_;refine AA ?_;refine BC ?_;refine AE ?_;refine AC ?_;refine AN rfl ?_;refine AK ?_;refine AC ?_;refine AP ?_;refine AC ?_;refine AA ?_;refine BB ?_;refine AT ?_;refine AX ?_; rintro _ _ ⟨b,rfl,rfl⟩;refine AV ?_; rintro _ _ ⟨rfl,rfl⟩;refine AE ?_;refine AC ?_;refine AA ?_;refine AG ?_;refine AG ?_;refine AF ?_;refine AG ?_;refine AF ?_;refine BB ?_;refine AT ?_;refine AX ?_; rintro _ _ ⟨b,rfl,rfl⟩;refine AV ?_; rintro _ _ ⟨rfl,rfl⟩;refine AE ?_;refine AC ?_;refine AA ?_;refine AG ?_;refine AF ?_;refine AZ ?_;refine AB ?_;refine AG ?_;refine AF ?_;refine AG ?_;refine AF ?_;refine BU ?_;refine AJ ?_;refine AB ?_;refine AG ?_;refine AF ?_;refine AG ?_;refine AF ?_;refine AG ?_;refine AF ?_;refine DY ?_;refine AZ ?_;refine AJ ?_;refine AB ?_;refine AG ?_;refine AF ?_;refine AG ?_;refine AF ?_;refine BG ?_;refine AJ ?_;refine AB ?_;refine AG ?_;refine AF ?_
 refine CK ?_;refine AG ?_;refine AF ?_;refine CK ?_;refine AG ?_;refine AF ?_;refine BU ?_;refine AJ ?_;refine AE ?_;refine AM rfl ?_;refine AK ?_;refine A3 ?_;refine AA ?_;refine A8 ?_;refine AB ?_;refine AE ?_
 exact AY (j + 1) (by omega) (by omega) covZ selZ
end Go.Proofs.YtphehihohghfoaaGreat
/- The rows: each law, for every input. -/
namespace Go.Proofs.YtphehihohghfoaaGreat
open Go.Eng Go.Step
set_option maxRecDepth 100000
set_option maxHeartbeats 4000000
open Go.ChangeShapes Go.WideShapes Go.ChangeAt Go.RowKit

set_option maxRecDepth 100000 in
theorem plannerProves_lifted (os:Os) (started:os.Started) (H:Type) (enc:TypeId × Value → H) :
  ReturnsInHanded {} Tryz.checked os 4 .any (Rows.plannerProvesSpec.pre6 enc Tryz.prog Tryz.f4 Rows.plannerProvesRow.domain false) (Rows.plannerProvesSpec.post enc Tryz.prog Tryz.f4 false true false false):=by
 refine returnsInHanded_of_change (C:=Tryz.checked) Tryz.own started (by kernel_rfl) Tryz.func4
  (ChangeSpec.witness6 (enc:=enc) (C:=Tryz.checked) false ⟨#[],#[.agg #[.slice none 0 0,.slice none 0 0,.slice none 0 0,.slice none 0 0],.agg #[.int .i64 0,.int .i64 0,.int .i64 0,.int .i64 0,.int .i64 0]],[]⟩ 8 (by kernel_rfl) (by kernel_rfl) (by kernel_rfl) (by kernel_rfl)) ?_
 intro W base args ds gs before hval0 hW hcnd _
 have hval:∀ (j:Nat) t v,Tryz.f4.params[j]? = some t → args[j]? = some v → Value.okWide Tryz.prog W .any base t v:=hval0
 have hW':=hW
 obtain ⟨p,q,hA0,hV,rfl,hfz,hnd⟩:=hW
 have hA:DataW.TrodAll enc Tryz.prog W 0 (fun _=>true) true Tryz.f4.params.toList args.toList ds p:=hA0
 rw [Tryz.params4] at hA hval
 obtain ⟨v0,vs0,d0,ds0,p0,q0,hargs,rfl,rfl,h0,r0⟩:=trodAll_cons hA
 obtain ⟨v1,vs1,d1,ds1,p1,q1,rfl,rfl,rfl,h1,r1⟩:=trodAll_cons r0
 obtain ⟨rfl,rfl,rfl⟩:=trodAll_nil r1
 obtain rfl:args = #[v0,v1]:=by cases args; simp_all
 obtain ⟨rfl,rfl⟩:=trodVars_none hV
 have lt0:∀ x ∈ p0,x.block < W.heap.size:=by obtain ⟨m,hm⟩:=h0; exact DataW.trod_lt m _ _ _ hm
 have lt1:∀ x ∈ p1,x.block < W.heap.size:=by obtain ⟨m,hm⟩:=h1; exact DataW.trod_lt m _ _ _ hm
 have hlaw:Ans Tryz.prog (fv 4) [v0,v1] [heapPH W] (fun v=>v = .bool true):=by
  obtain ⟨pq,pc,pb,ph,kq,kc,kb,kh,qs,cs,bs,hs,rfl,hT⟩:=tables_of (hval 0 _ v0 rfl rfl) (RdT.of h0)
  obtain ⟨d,rfl,id0,id1,id2,id3,id4⟩:=demand_of (hval 1 _ v1 rfl rfl) (RdT.of h1)
  exact (proves_law hT d).rsub (fun _ h=>by simpa using h)
 refine (law_calls Tryz.func4 rfl rfl hlaw).mono fun e W' ⟨he,bel⟩=>?_
 subst he
 exact ⟨_,rfl,_,_,_,[],_,[],hW',trodAll_mk1 (shut_bool Tryz.underlying4 _),(trodAll_cons_mk (Below.trod Tryz.laidOut (by kernel_rfl) (of_decide_eq_true (by kernel_rfl)) h0 bel lt0) (trodAll_cons_mk (Below.trod Tryz.laidOut (by kernel_rfl) (of_decide_eq_true (by kernel_rfl)) h1 bel lt1) trodAll_mk0)),rfl,bel.frame _,fun h=>by cases h⟩
theorem plannerProves_holds:Rows.PlannerProvesSaid:=
 OpenClaim.holds_of_wide 4 Tryz.f4 rfl rfl rfl rfl rfl rfl rfl ⟨rfl,rfl,rfl,rfl,rfl⟩ rfl rfl rfl rfl rfl (by kernel_rfl) Tryz.func4 (by kernel_rfl)
  (of_decide_eq_true (by kernel_rfl)) (by unfold Func.isWrapper; first | (rw [if_pos (by decide +kernel)]; kernel_rfl) | (rw [if_neg (by decide +kernel)]; exact ⟨rfl,rfl⟩))
  (fun os started H enc _=>plannerProves_lifted os started H enc)
end Go.Proofs.YtphehihohghfoaaGreat
