/- Texts of this proof, one after the other; no conditions. -/
import Derived.Test.YtphehihohghfoaaGreatWB8
import Derived.Test.YtphehihohghfoaaGreatWB3
import Derived.Test.YtphehihohghfoaaGreatWB11
import Derived.Test.YtphehihohghfoaaGreatWB4
import Derived.Test.YtphehihohghfoaaGreatWB2
import Derived.Test.YtphehihohghfoaaGreatWB5
set_option linter.all false
/- The capacity of a cut's vertices. -/
namespace Go.Proofs.YtphehihohghfoaaGreat
open Go.Eng Go.Step Go.Flow
set_option maxRecDepth 100000
set_option maxHeartbeats 4000000

theorem cuAtJ_get {c:Cu} {k:Nat} {I:Iv} (h:c[k]? = some I):cuAt c k = I:=by
 unfold cuAt
 simp [h]
set_option maxHeartbeats 32000000 in
theorem capacity54_spec {ρ τ σ υ:PH} {pq pc pb ph:Option Addr} {kq kc kb kh:Nat} {qs:List Int} {cs:List Ct} {bs:List Bk} {hs:List Hd} (hT:TbAt ρ τ σ υ pq pc pb ph kq kc kb kh qs cs bs hs) (d:Dm) (γ κ:PH) (v:Value) (L:List Sq) (hC:CutL γ κ v L) {F side:List Int} {m c:Int} (hv:validT qs cs bs hs d = true) (hm:MaxN qs cs bs hs d F m 0) (hk:CutN qs cs bs hs d side c 0) (hL:cuL L = sidesC d qs.length side) :
  Ans Tryz.prog (fv 18) [.agg #[.slice pq qs.length kq,.slice pc cs.length kc,.slice pb bs.length kb,.slice ph hs.length kh],.agg #[int d.s,int d.d,int d.v,int d.r,int d.e],v] [ρ,τ,σ,υ,γ,κ] (fun r=>r = .tuple #[int m,.bool true]):=by
 have h:=vok hv
 have hdm:=h.dm
 unfold okDm at hdm
 have hnq:=h.nq
 have hvs:=h.vs
 obtain ⟨hve,hasc⟩:=cut_verts h hk
 have hcs:=cut_spec h hv hm hk
 obtain ⟨_,_,_,hin,hout,hsl⟩:=cut_facts h hv hm hk
 have hLl:L.length = qs.length:=by
  have:=congrArg List.length hL
  rwa [List.length_map,sidesC_len] at this
 obtain ⟨q,kk,rfl,hr⟩:=hC.1.val encQ_len
 have hpre:∀ (a b:List Int),side = a ++ b → a.length ≤ 1616:=fun a b e=>by
  have:=congrArg List.length e
  rw [List.length_append] at this;omega
 refine spec_in (cap:=[]) Tryz.func18 rfl rfl Tryz.ntmps18 rfl envZ (fun N β=>?_)
 refine Aa ?_;refine BH (BK rfl) rfl rfl rfl ?_;rintro _ _ ⟨b1,rfl,rfl⟩;refine AR (ρ:=sng b1 _) takeZ ?_
 have ct:=rdB b1 29 [.slice pq qs.length kq,.slice pc cs.length kc,.slice pb bs.length kb,.slice ph hs.length kh]
 have ct0:=rdC ct 0
 have ct1:=rdC ct 1
 have ct2:=rdC ct 2
 have ct3:=rdC ct 3
 have ctp:RdP (sng b1 (.cells #[.slice pq qs.length kq,.slice pc cs.length kc,.slice pb bs.length kb,.slice ph hs.length kh] 29 (0,0))) b1 0 [.slice pq qs.length kq,.slice pc cs.length kc]:=rdP_sng (xs:=[.slice pq qs.length kq,.slice pc cs.length kc,.slice pb bs.length kb,.slice ph hs.length kh]) rfl
 refine BH (BK rfl) rfl rfl rfl ?_;rintro _ _ ⟨b2,rfl,rfl⟩;refine AR (ρ:=sng b2 _) takeZ ?_
 have cd:=rdB b2 31 [int d.s,int d.d,int d.v,int d.r,int d.e]
 have cd0:=rdC cd 0
 have cd1:=rdC cd 1
 have cd2:=rdC cd 2
 have cd3:=rdC cd 3
 have cd4:=rdC cd 4
 refine BX ?_;refine Aan ?_;refine Ab0 ?_;refine BZ (Graph_spec hT d) rfl rfl rdZ rfl rfl ?_;rintro _ σg hg;rw [if_pos hv] at hg
 obtain ⟨ug,rfl,hOg⟩:=hg
 have hAt:ArcsAt σg ug (arcsG qs cs bs hs d):=hOg.at
 obtain ⟨pg,kg,rfl⟩:=hOg.form
 have hEl:=ea_len qs cs bs hs d h
 have hAl:(arcsG qs cs bs hs d).length = (arcsE qs cs bs hs d).length:=by unfold arcsG; rw [List.length_map]
 refine AR (ρ:=σg) takeZ ?_;refine Aa6 ?_;refine AX ?_; rintro _ _ ⟨b,rfl,rfl⟩;refine AV ?_; rintro _ _ ⟨rfl,rfl⟩;refine Aab ?_;refine Adj ?_
 revert b; intro b8
 refine AR (ρ:=sng b8 _) takeZ ?_
 have c8:=rdB b8 69 [int (vsN qs d),.slice pg (arcsG qs cs bs hs d).length kg,int (vtx d d.s d.r),int (vtx d d.d d.e)]
 have c80:rdc (sng b8 (.cells #[int (vsN qs d),.slice pg (arcsG qs cs bs hs d).length kg,int (vtx d d.s d.r),int (vtx d d.d d.e)] 69 (0,0))) b8 0 = some (int (vsN qs d)):=c8.get0
 have c81:rdc (sng b8 (.cells #[int (vsN qs d),.slice pg (arcsG qs cs bs hs d).length kg,int (vtx d d.s d.r),int (vtx d d.d d.e)] 69 (0,0))) b8 1 = some (.slice pg (arcsG qs cs bs hs d).length kg):=c8.get (j:=1) rfl
 have c82:rdc (sng b8 (.cells #[int (vsN qs d),.slice pg (arcsG qs cs bs hs d).length kg,int (vtx d d.s d.r),int (vtx d d.d d.e)] 69 (0,0))) b8 2 = some (int (vtx d d.s d.r)):=c8.get (j:=2) rfl
 have c83:rdc (sng b8 (.cells #[int (vsN qs d),.slice pg (arcsG qs cs bs hs d).length kg,int (vtx d d.s d.r),int (vtx d d.d d.e)] 69 (0,0))) b8 3 = some (int (vtx d d.d d.e)):=c8.get (j:=3) rfl
 skip
 refine BA [3,4,8,9,26,27] (X:=Nat × Value × PH) (0,.slice none 0 0,emp) (fun z=>z.1 ≤ L.length ∧ OwnS 3 1 z.2.1 (vertsC d (cuL L) z.1).length ((vertsC d (cuL L) z.1).flatMap Eng.encI) z.2.2) (fun z=>[(28,int z.1),(10,z.2.1)]) (fun z=>[z.2.2]) (fun z=>L.length - z.1) pickZ ⟨by dsimp only; omega,OwnS.nil _ _⟩ covZ selZ ?_
 rintro ⟨k,u,σo⟩ ⟨hk1,hO⟩
 dsimp only at hk1 hO ⊢
 by_cases hlt:k < L.length
 rotate_left
 ·have hke:k = qs.length:=by omega
  rw [hke,hL,hve] at hO
  have hso:sortd side = side:=List.mergeSort_of_pairwise (hasc.imp (fun {x y} h=>decide_eq_true (Int.le_of_lt h)))
  refine Abr ?_;refine Aad ?_
  refine BE (sortI_spec σo _ side hO (by omega)) rfl rfl takesZ (fun τ hτ=>by simp at hτ) rfl rfl ?_
  rintro _ _ ⟨rfl,σ2,hO2,rfl⟩;rw [hso] at hO2
  have hI:IntsAt σ2 u side:=hO2.at
  obtain ⟨pu,ku,rfl⟩:=hO2.form
  refine AR (ρ:=σ2) takeZ ?_
  have hcap:=flowCapacity_spec σg σ2 (.slice pg (arcsG qs cs bs hs d).length kg) (.slice pu side.length ku) (vsN qs d) (arcsG qs cs bs hs d) side hAt hI (by omega) (by omega)
  rw [hcs] at hcap
  dsimp only at hcap
  have hk1:=containsInt_spec σ2 _ side (vtx d d.s d.r) hI (by omega)
  have hk2:=containsInt_spec σ2 _ side (vtx d d.d d.e) hI (by omega)
  rw [decide_eq_true hin] at hk1;rw [decide_eq_false hout] at hk2;refine AE ?_;refine Acl ?_;refine AB ?_;refine A2 hcap rfl rfl rdZ rfl rfl ?_;rintro _ rfl;refine Abb ?_;refine Abp ?_;refine CI ?_;refine Aaz ?_;refine CI ?_;refine AL ?_;refine AB ?_;refine Aae ?_;refine A2 hk1 rfl rfl rdZ rfl rfl ?_;rintro _ rfl;refine AL ?_;refine AB ?_;refine Aae ?_;refine A2 hk2 rfl rfl rdZ rfl rfl ?_;rintro _ rfl;refine A9 ?_;refine AL ?_;refine Aan ?_;exact AI (res2 rfl rfl rfl) rsubZ selZ ⟨rfl,rfl⟩
 have hx:=List.getElem?_eq_getElem hlt
 have hcu:(cuL L)[k]? = some (L[k]).2:=by rw [List.getElem?_map,hx]; rfl
 obtain ⟨hsp,hspl⟩:=hC.2 _ (List.mem_of_getElem? hx)
 have hnext:vertsC d (cuL L) (k + 1) = vertsC d (cuL L) k ++ vertsI d k (L[k]).2:=by
  show vertsC d (cuL L) k ++ vertsI d k (cuAt (cuL L) k) = _
  rw [cuAtJ_get hcu]
 have hsi:(L[k]).2 = sideI d side k:=by
  rw [← cuAtJ_get hcu,hL,sidesC_at d side (by omega)]
 have hpk:∃ b,side = vertsC d (cuL L) (k + 1) ++ b:=by
  have hmono:∀ j:Nat,∃ b,vertsC d (cuL L) (k + 1 + j) = vertsC d (cuL L) (k + 1) ++ b:=fun j=>by
   induction j with
   | zero=>exact ⟨[],by simp⟩
   | succ j ih =>
    obtain ⟨b,e⟩:=ih
    exact ⟨b ++ vertsI d (k + 1 + j:Nat) (cuAt (cuL L) (k + 1 + j:Nat)),by rw [← List.append_assoc,← e]; rfl⟩
  obtain ⟨b,e⟩:=hmono (qs.length - (k + 1))
  rw [show k + 1 + (qs.length - (k + 1)) = qs.length by omega] at e
  rw [hL] at e;rw [hve,← hL] at e;exact ⟨b,e⟩
 obtain ⟨bc,oc,rfl,hrd⟩:=hr k _ hx
 have r0:rdc γ bc (oc + k * 1) = some (.slice L[k].1.1 L[k].2.length L[k].1.2):=by
  have:=hrd 0 _ rfl
  rwa [Nat.add_zero] at this
 rw [Nat.mul_one] at r0
 have hrI:=rowN encS_len hsp
 clear hrd hcu
 generalize L[k].1.1 = pI at r0 hsp hrI
 generalize L[k].1.2 = kI at r0 hsp
 generalize L[k].2 = I at hnext hsi r0 hsp hrI hspl
 have hnm:=(sideI_ok d side k).1
 have hinn:=sideI_in (d:=d) (by omega) side k
 rw [← hsi] at hnm hinn
 obtain ⟨brest,hrest⟩:=hpk
 refine Ab8 ?_;refine Aby ?_;refine Aan ?_;refine Aad ?_;refine Abh ?_
 refine BA [3,4,8,9,26,27,28,11,33,34] (X:=Nat × Value × PH) (0,u,σo) (fun z=>z.1 ≤ I.length ∧ OwnS 3 1 z.2.1 (vertsC d (cuL L) k ++ vertsI d k (I.take z.1)).length ((vertsC d (cuL L) k ++ vertsI d k (I.take z.1)).flatMap Eng.encI) z.2.2) (fun z=>[(35,int z.1),(10,z.2.1)]) (fun z=>[z.2.2]) (fun z=>I.length - z.1) pickZ ⟨by dsimp only; omega,by dsimp only; rw [List.take_zero,vertsI_nil,List.append_nil]; exact hO⟩ covZ selZ ?_
 rintro ⟨j,u1,σ1⟩ ⟨hj1,hO1⟩
 dsimp only at hj1 hO1 ⊢
 by_cases hjl:j < I.length
 rotate_left
 ·have hje:j = I.length:=by omega
  rw [hje,List.take_length,← hnext] at hO1;refine Abr ?_;refine Aa2 ?_
  exact AY (k + 1,u1,σ1) ⟨by dsimp only; omega,hO1⟩ (by dsimp only; omega) covZ selZ
 have hy:=List.getElem?_eq_getElem hjl
 have hyi:=hinn _ (List.getElem_mem hjl)
 have hyn:=hnm.1 _ (List.getElem_mem hjl)
 obtain ⟨b6,o6,rfl,hRd6,y0,y1⟩:=spRow hrI hy
 have hnx:=vertsI_next d k hy
 have hpj:∃ b,side = vertsC d (cuL L) k ++ (vertsI d k (I.take (j + 1)) ++ b):=by
  refine ⟨vertsI d k (I.drop (j + 1)) ++ brest,?_⟩
  have e:vertsI d k I = vertsI d k (I.take (j + 1)) ++ vertsI d k (I.drop (j + 1)):=by
   unfold vertsI tickL;rw [← List.map_append,← List.flatMap_append,List.take_append_drop]
  rw [← List.append_assoc (vertsI d k (I.take (j + 1))),← e,hrest,hnext,List.append_assoc]
 obtain ⟨brj,hrj⟩:=hpj
 generalize I[j] = y at hy hyi hyn hRd6 y0 y1 hnx
 clear y0 y1
 rw [show max y.1 0 = y.1 by omega,show min y.2 (d.e + 1) = y.2 by omega] at hnx
 rw [hnx] at hrj;refine Ab2 ?_;refine AX ?_; rintro _ _ ⟨b,rfl,rfl⟩;refine AV ?_; rintro _ _ ⟨rfl,rfl⟩;refine AE ?_;refine Aao ?_;refine DY ?_;refine Aab ?_;refine AP ?_
 revert b; intro b14
 rw [show max y.1 0 = y.1 by omega]
 refine BA [3,4,8,9,26,27,28,11,33,34,35,14] (X:=Nat × Value × PH) (0,u1,σ1) (fun z=>(z.1:Int) ≤ y.2 - y.1 ∧ OwnS 3 1 z.2.1 (vertsC d (cuL L) k ++ (vertsI d k (I.take j) ++ (rngI y.1 (y.1 + z.1)).map (vtx d k))).length ((vertsC d (cuL L) k ++ (vertsI d k (I.take j) ++ (rngI y.1 (y.1 + z.1)).map (vtx d k))).flatMap Eng.encI) z.2.2) (fun z=>[(15,int (y.1 + z.1)),(10,z.2.1)]) (fun z=>[z.2.2,sng b14 (.cells #[int y.1,int y.2] 93 (0,0))]) (fun z=>(y.2 - y.1).toNat - z.1) pickZ ⟨by dsimp only; omega,by dsimp only; rw [rngI_nil (by omega),List.map_nil,List.append_nil]; exact hO1⟩ ?_ selZ ?_
 ·rw [show y.1 + ((0:Nat):Int) = y.1 by omega]
  exact covZ
 rintro ⟨i,u2,σ2⟩ ⟨hi1,hO2⟩
 dsimp only at hi1 hO2 ⊢
 by_cases hil:(i:Int) < y.2 - y.1
 rotate_left
 ·have hie:y.1 + (i:Int) = y.2:=by omega
  rw [hie,← hnx] at hO2;refine Aam ?_;refine Aac ?_;refine AZ ?_;refine Aa9 ?_;refine AJ ?_;refine Ad ?_;refine Aa2 ?_
  exact AY (j + 1,u2,σ2) ⟨by dsimp only; omega,hO2⟩ (by dsimp only; omega) covZ selZ
 have hV:=Vertex_spec hT d k (y.1 + i)
 unfold vertexR at hV
 rw [if_pos hv,if_pos ⟨⟨by omega,by omega⟩,by omega,by omega⟩] at hV
 dsimp only at hV
 have hsn:=rngI_snoc (a:=y.1) (b:=y.1 + i) (by omega)
 have hlen:(vertsC d (cuL L) k ++ (vertsI d k (I.take j) ++ (rngI y.1 (y.1 + i)).map (vtx d k))).length ≤ 1616:=by
  refine hpre _ ((rngI (y.1 + i) y.2).map (vtx d k) ++ brj) ?_
  rw [hrj,rngI_split (show y.1 ≤ y.1 + i by omega) (show y.1 + i ≤ y.2 by omega),List.map_append]
  simp only [List.append_assoc]
 have hvx:=vtx_lt (d:=d) (n:=k) (t:=y.1 + i) (N:=qs.length) (by omega) (by omega) (by omega) (by omega)
 have hvn:vsN qs d = qs.length * wd d:=rfl
 generalize hX:vertsC d (cuL L) k ++ (vertsI d k (I.take j) ++ (rngI y.1 (y.1 + i)).map (vtx d k)) = X at hO2 hlen
 refine Aam ?_;refine Aac ?_;refine BC ?_;refine AB ?_;refine Aae ?_;refine CJ ?_;refine AL ?_;refine Ack ?_;refine Ab0 ?_;refine Aaz ?_;refine A2 hV rfl rfl rdZ rfl rfl ?_;rintro _ rfl;refine Ab7 ?_;refine Abc ?_;refine AA ?_;refine Aaz ?_;refine BI ?_; rintro _ _ ⟨b,rfl,rfl⟩
 refine BH (B5 (by_:=8) (s:=1) (news:=[int (vtx d k (y.1 + i))]) rfl rfl rfl rfl rfl rfl rfl hO2 takeZ (cells_own memZ) rfl (by (repeat (first | exact (fun v hv=>absurd hv List.not_mem_nil) | (refine List.forall_mem_cons.2 ⟨?_,?_⟩; (focus (first | exact rfl | assumption))))); first | done | fail) (by omega) (by simp only [maxLen]; omega) (by omega)) rfl rfl rfl ?_
 rintro u3 _ ⟨σ3,hO3,rfl⟩;refine Aab ?_;refine Acg ?_;refine Ad4 ?_
 refine AY (i + 1,u3,σ3) ⟨by dsimp only; omega,?_⟩ (by dsimp only; omega) ?_ selZ
 ·dsimp only
  rw [show y.1 + ((i + 1:Nat):Int) = y.1 + i + 1 by omega,hsn,List.map_append,← List.append_assoc (vertsI d k (I.take j)),← List.append_assoc (vertsC d (cuL L) k),hX]
  rw [List.length_append,List.flatMap_append];exact hO3
 ·dsimp only
  rw [show y.1 + ((i + 1:Nat):Int) = y.1 + i + 1 by omega]
  exact covZ
end Go.Proofs.YtphehihohghfoaaGreat
/- Law PlannerProves. -/
namespace Go.Proofs.YtphehihohghfoaaGreat
open Go.Eng Go.Step
set_option maxRecDepth 100000
set_option maxHeartbeats 4000000

theorem valid_ends {qs:List Int} {cs:List Ct} {bs:List Bk} {hs:List Hd} {d:Dm} (h:validT qs cs bs hs d = true):∀ c ∈ cs,c.f ≠ c.t:=fun c hc=>by
 obtain ⟨hcs0,_⟩:=valid_ok h
 have h1:=(hcs0 c hc).1
 unfold chkCt at h1
 split at h1
 ·omega
 split at h1
 ·omega
 ·assumption
set_option maxHeartbeats 64000000 in
theorem proves_law {ρ τ σ υ:PH} {pq pc pb ph:Option Addr} {kq kc kb kh:Nat} {qs:List Int} {cs:List Ct} {bs:List Bk} {hs:List Hd} (hT:TbAt ρ τ σ υ pq pc pb ph kq kc kb kh qs cs bs hs) (d:Dm):Ans Tryz.prog (fv 4) [.agg #[.slice pq qs.length kq,.slice pc cs.length kc,.slice pb bs.length kb,.slice ph hs.length kh],.agg #[int d.s,int d.d,int d.v,int d.r,int d.e]] [ρ,τ,σ,υ] (fun r=>r = .bool true):=by
 have hf:=fine54_spec hT d
 refine spec_in (cap:=[]) Tryz.func4 rfl rfl Tryz.ntmps4 rfl envZ (fun N β=>?_)
 refine Aa ?_;refine BH (BK rfl) rfl rfl rfl ?_;rintro _ _ ⟨b1,rfl,rfl⟩;refine AR (ρ:=sng b1 _) takeZ ?_
 have ct:=rdB b1 29 [.slice pq qs.length kq,.slice pc cs.length kc,.slice pb bs.length kb,.slice ph hs.length kh]
 have ct0:=rdC ct 0
 have ct1:=rdC ct 1
 have ct2:=rdC ct 2
 have ct3:=rdC ct 3
 have ctp:RdP (sng b1 (.cells #[.slice pq qs.length kq,.slice pc cs.length kc,.slice pb bs.length kb,.slice ph hs.length kh] 29 (0,0))) b1 0 [.slice pq qs.length kq,.slice pc cs.length kc]:=rdP_sng (xs:=[.slice pq qs.length kq,.slice pc cs.length kc,.slice pb bs.length kb,.slice ph hs.length kh]) rfl
 refine BH (BK rfl) rfl rfl rfl ?_;rintro _ _ ⟨b2,rfl,rfl⟩;refine AR (ρ:=sng b2 _) takeZ ?_
 have cd:=rdB b2 31 [int d.s,int d.d,int d.v,int d.r,int d.e]
 have cd0:=rdC cd 0
 have cd1:=rdC cd 1
 have cd2:=rdC cd 2
 have cd3:=rdC cd 3
 have cd4:=rdC cd 4
 refine Abn ?_;refine Ab0 ?_;refine A2 hf rfl rfl rdZ rfl rfl ?_;rintro _ ⟨fb,rfl,hfb⟩
 cases fb with
 | false =>
  refine Ac2 ?_;refine Aa ?_;refine A2 awake54_spec rfl rfl rdZ rfl rfl ?_;rintro _ rfl;refine Aab ?_;exact AI (res1 rfl rfl) rsubZ selZ ⟨rfl,rfl⟩
 | true =>
 have hv:=hfb rfl
 have h:=vok hv
 have hdm:=h.dm
 unfold okDm at hdm
 have hne:=valid_ends hv
 have hnq:=h.nq
 have hnf:¬ validT qs cs bs hs d = false:=by rw [hv]; simp
 refine Ab4 ?_;refine Ab0 ?_;refine A2 (Most_spec hT d) rfl rfl rdZ rfl rfl ?_;rintro _ (⟨_,F,m,hm,rfl⟩ | ⟨h1,_⟩)
 rotate_left
 ·exact absurd h1 hnf
 refine Abb ?_;refine Ab0 ?_;refine BE (Plan_spec hT d) rfl rfl Takes.nil rdZ rfl rfl ?_;rintro _ _ (⟨_,acc,vol,ss,c,a,σ1,σ2,σ3,rfl,rfl,hP,p1,k1,L,p2,k2,rfl,hS,hC,hL⟩ | ⟨h1,_⟩)
 rotate_left
 ·exact absurd h1 hnf
 refine AR (ρ:=σ1) takeZ ?_;refine AR (ρ:=σ2) takeZ ?_;refine AR (ρ:=σ3) takeZ ?_
 have hlen:=planned_len h hP
 obtain ⟨F2,m2,hm2,hP⟩:=hP
 obtain ⟨eF,em,_⟩:=hm.uniq hm2
 rw [← em,← eF] at hP;clear hm2 em eF
 rcases hP with ⟨hlt,rfl,hvol,rfl,side,kc0,hk,rfl⟩ | ⟨hle,rfl,rfl,rfl,ps,hp,hss⟩
 ·replace hvol:=hvol.symm
  subst hvol
  have hLl:L.length = qs.length:=by
   have:=congrArg List.length hL
   rwa [List.length_map,sidesC_len] at this
  have hk0:CutN qs cs bs hs d side kc0 0:=hk
  have hcp:=capacity54_spec hT d σ2 σ3 _ L hC hv hm hk0 hL
  rw [show ([]:List Sh).length = 0 from rfl] at *
  refine Aa6 ?_;refine AX ?_; rintro _ _ ⟨b,rfl,rfl⟩;refine AV ?_; rintro _ _ ⟨rfl,rfl⟩;refine Adt ?_;refine BF ?_;refine Aaz ?_;refine BF ?_;refine Aap ?_;refine Aac ?_;refine AB ?_;refine CN ?_
  revert b; intro b7
  refine AR (ρ:=sng b7 _) takeZ ?_
  have c7:=rdB b7 41 [(.bool false),int m,.slice p1 0 k1,.slice p2 L.length k2]
  have c70:=rdC c7 0
  have c71:=rdC c7 1
  have c72:=rdC c7 2
  have c73:=rdC c7 3
  focus ((refine' CD _ rfl rfl rfl _; rotate_left; (apply EY; exact rfl; exact rfl; exact rfl)))
  refine Abe ?_;refine Ad2 ?_;refine Ac2 ?_;refine Ab0 ?_;refine Aac ?_;refine A2 hcp rfl rfl rdZ rfl rfl ?_;rintro _ rfl;refine Abb ?_;refine Abp ?_;refine Aae ?_;refine CI ?_;refine AL ?_;refine Acq ?_;refine CI ?_;refine AL ?_;refine AB ?_;refine Aae ?_;refine BC ?_;refine Acj ?_;refine AW ?_;refine CI ?_;refine Acj ?_;refine AW ?_;refine AG ?_;refine Ac8 ?_;refine CI ?_;refine AL ?_;refine AB ?_;refine A2 awake54_spec rfl rfl rdZ rfl rfl ?_;rintro _ rfl;refine Ab3 ?_;exact AI (res1 rfl rfl) rsubZ selZ ⟨rfl,rfl⟩
 have hLl:L.length = 0:=by
  have:=congrArg List.length hL
  rwa [List.length_map] at this
 have hfl:=ships_part h hv hm hp hle
 rw [← hss] at hfl
 obtain ⟨g1,g2,g3,g4⟩:=brings_flow hv h hfl hne
 have hf1:=(ships_facts (flow_parts hfl).1).1
 have hbr:=fun n=>brings_spec σ1 hT _ ss n hS hlen.1 g4
 have hb1:=hbr d.d
 have hb2:=hbr d.s
 rw [g1] at hb1;rw [g2] at hb2
 have hrs:=rowN encX_len hS
 have hrc:=hT.rc
 clear hss;rw [hLl];refine Aa6 ?_;refine AX ?_; rintro _ _ ⟨b,rfl,rfl⟩;refine AV ?_; rintro _ _ ⟨rfl,rfl⟩;refine Adt ?_;refine BF ?_;refine Aaz ?_;refine BF ?_;refine Aap ?_;refine Aac ?_;refine AB ?_;refine CJ ?_
 revert b; intro b7
 refine AR (ρ:=sng b7 _) takeZ ?_
 have c7:=rdB b7 41 [(.bool true),int d.v,.slice p1 ss.length k1,.slice p2 0 k2]
 have c70:=rdC c7 0
 have c71:=rdC c7 1
 have c72:=rdC c7 2
 have c73:=rdC c7 3
 focus ((refine' CD _ rfl rfl rfl _; rotate_left; (apply EY; exact rfl; exact rfl; exact rfl)))
 refine Abe ?_;refine Ad2 ?_;refine Ab4 ?_;refine AC ?_;refine AC ?_
 refine A5 (.q 0 (.q 1 (.q 2 (.q 3 (.q 4 (.q 5 (.q 6 (.q 7 (.q 8 (.q 9 (.q 10 (.q 11 (.q 12 (.q 13 (.q 14 (.q 15 (.q 16 (.q 18 (.q 19 (.l 17 .e (.q 20 (.q 21 (.q 22 (.q 23 (.q 24 (.q 25 (.q 26 (.q 27 (.q 29 (.q 30 (.q 31 (.l 28 .e (.q 32 (.q 33 .nil)))))))))))))))))))))))))))))))))) [] rfl (by kernel_rfl) selZ ?_
 refine Ac6 ?_;refine E0 ?_;refine Ac3 ?_;refine DX ?_;refine E0 ?_;refine BV ?_;refine AS ?_;refine BN ?_;refine Ac6 ?_;refine Aar ?_;refine CP (CG rfl hb1 rfl rfl rdZ rfl rfl ?_);rintro _ rfl;refine E0 ?_;refine BV ?_;refine AS ?_;refine BN ?_;refine Ac6 ?_;refine Aar ?_;refine zd_neg ?_;refine CP (CG rfl hb2 rfl rfl rdZ rfl rfl ?_);rintro _ rfl;refine E0 ?_;refine BV ?_;refine Ad5 ?_;refine Ac0 ?_;refine Aac ?_;refine Abh ?_
 refine BA [2,3,7,132] (0:Nat) (fun k=>k ≤ qs.length) (fun k=>[(133,int k)]) (fun _=>[]) (fun k=>qs.length - k) pickZ (by omega) covZ selZ ?_
 rintro k hk
 by_cases hlt:k < qs.length
 ·by_cases e1:(k:Int) = d.s
  ·refine AC ?_
   refine AA ?_;refine Aa0 ?_;refine Aad ?_;refine Aa7 ?_;refine Aac ?_;refine BF ?_;refine Aa9 ?_;refine AJ ?_;refine Ach ?_;refine Abe ?_;refine Aa2 ?_
   exact AY (k + 1) (by omega) (by omega) covZ selZ
  by_cases e2:(k:Int) = d.d
  ·refine AC ?_
   refine AA ?_;refine Aa0 ?_;refine Aad ?_;refine Aa7 ?_;refine Aac ?_;refine CF ?_;refine AB ?_;refine Aae ?_;refine BF ?_;refine AL ?_;refine Ach ?_;refine Abe ?_;refine Aa2 ?_
   exact AY (k + 1) (by omega) (by omega) covZ selZ
  have hbk:=hbr k
  rw [g3 k (by omega) (by omega) e1 e2] at hbk
  refine Ab8 ?_;refine Aa7 ?_;refine Aac ?_;refine CF ?_;refine AB ?_;refine Aae ?_;refine CF ?_;refine AL ?_;refine AB ?_;refine AT ?_;refine Aac ?_;refine AB ?_;refine A2 hbk rfl rfl rdZ rfl rfl ?_;rintro _ rfl;refine BF ?_;refine AL ?_;refine Adk ?_
  exact AY (k + 1) (by omega) (by omega) covZ selZ
 have hke:k = qs.length:=by omega
 refine Abr ?_;refine Ad2 ?_;refine Abh ?_
 refine BA [2,3,7,156,157] (0:Nat) (fun j=>j ≤ ss.length) (fun j=>[(158,int j)]) (fun _=>[]) (fun j=>ss.length - j) pickZ (by omega) covZ selZ ?_
 rintro j hj
 by_cases hjl:j < ss.length
 rotate_left
 ·refine AC ?_
  refine Ad0 ?_;refine Aa ?_;refine A2 awake54_spec rfl rfl rdZ rfl rfl ?_;rintro _ rfl;refine Aab ?_;exact AI (res1 rfl rfl) rsubZ selZ ⟨rfl,rfl⟩
 have hx:=List.getElem?_eq_getElem hjl
 obtain ⟨y,t1,_,t3,t4,t5,t6,t7,t8,t9⟩:=ship1_tests (hf1 _ (List.getElem_mem hjl))
 have hyo:=h.ct y (List.mem_of_getElem? t1)
 obtain ⟨b8,o8,rfl,hrd8,_⟩:=shRow hrs hx
 generalize ss[j] = x at hx t1 t3 t4 t5 t6 t7 t8 t9 hrd8
 obtain ⟨i,hi⟩:=Int.eq_ofNat_of_zero_le t3.1
 have hil:i < cs.length:=by omega
 rw [hi,Int.toNat_natCast] at t1
 obtain ⟨b9,o9,ec,hrd9⟩:=ctRow hrc t1
 obtain ⟨xc,xt,xn⟩:=x
 dsimp only at hi t3 t4 t5 t6 t7 t8 t9 hrd8
 subst hi;subst ec;refine Ab2 ?_;refine AX ?_; rintro _ _ ⟨b,rfl,rfl⟩;refine AV ?_; rintro _ _ ⟨rfl,rfl⟩;refine AE ?_;refine Ac0 ?_;refine Acy ?_;refine Abk ?_;refine AX ?_; rintro _ _ ⟨b,rfl,rfl⟩;refine AV ?_; rintro _ _ ⟨rfl,rfl⟩;refine AE ?_;refine Ab9 ?_;refine Ab ?_;refine BU ?_;refine Aap ?_;refine Acy ?_;refine DY ?_;refine Abl ?_;refine Aac ?_;refine Abj ?_;refine CK ?_;refine Aac ?_;refine CK ?_;refine Aac ?_;refine BU ?_;refine Abe ?_;refine Aa2 ?_
 exact AY (j + 1) (by omega) (by omega) covZ selZ
end Go.Proofs.YtphehihohghfoaaGreat
/- The rows: each law, for every input. -/
namespace Go.Proofs.YtphehihohghfoaaGreat
open Go.Eng Go.Step
set_option maxRecDepth 100000
set_option maxHeartbeats 4000000
open Go.ChangeShapes Go.WideShapes Go.ChangeAt Go.RowKit

set_option maxRecDepth 100000 in
theorem plannerProves_lifted (os:Os) (started:os.Started) (H:Type) (enc:TypeId × Value → H) :
  ReturnsInHanded {} Tryz.checked os 4 .any (Rows.plannerProvesSpec.pre6 enc Tryz.prog Tryz.f4 Rows.plannerProvesRow.domain false) (Rows.plannerProvesSpec.post enc Tryz.prog Tryz.f4 false true false false):=by
 refine returnsInHanded_of_change (C:=Tryz.checked) Tryz.own started (by kernel_rfl) Tryz.func4
  (ChangeSpec.witness6 (enc:=enc) (C:=Tryz.checked) false ⟨#[],#[.agg #[.slice none 0 0,.slice none 0 0,.slice none 0 0,.slice none 0 0],.agg #[.int .i64 0,.int .i64 0,.int .i64 0,.int .i64 0,.int .i64 0]],[]⟩ 8 (by kernel_rfl) (by kernel_rfl) (by kernel_rfl) (by kernel_rfl)) ?_
 intro W base args ds gs before hval0 hW hcnd _
 have hval:∀ (j:Nat) t v,Tryz.f4.params[j]? = some t → args[j]? = some v → Value.okWide Tryz.prog W .any base t v:=hval0
 have hW':=hW
 obtain ⟨p,q,hA0,hV,rfl,hfz,hnd⟩:=hW
 have hA:DataW.TrodAll enc Tryz.prog W 0 (fun _=>true) true Tryz.f4.params.toList args.toList ds p:=hA0
 rw [Tryz.params4] at hA hval
 obtain ⟨v0,vs0,d0,ds0,p0,q0,hargs,rfl,rfl,h0,r0⟩:=trodAll_cons hA
 obtain ⟨v1,vs1,d1,ds1,p1,q1,rfl,rfl,rfl,h1,r1⟩:=trodAll_cons r0
 obtain ⟨rfl,rfl,rfl⟩:=trodAll_nil r1
 obtain rfl:args = #[v0,v1]:=by cases args; simp_all
 obtain ⟨rfl,rfl⟩:=trodVars_none hV
 have lt0:∀ x ∈ p0,x.block < W.heap.size:=by obtain ⟨m,hm⟩:=h0; exact DataW.trod_lt m _ _ _ hm
 have lt1:∀ x ∈ p1,x.block < W.heap.size:=by obtain ⟨m,hm⟩:=h1; exact DataW.trod_lt m _ _ _ hm
 have hlaw:Ans Tryz.prog (fv 4) [v0,v1] [heapPH W] (fun v=>v = .bool true):=by
  obtain ⟨pq,pc,pb,ph,kq,kc,kb,kh,qs,cs,bs,hs,rfl,hT⟩:=tables_of (hval 0 _ v0 rfl rfl) (RdT.of h0)
  obtain ⟨d,rfl,id0,id1,id2,id3,id4⟩:=demand_of (hval 1 _ v1 rfl rfl) (RdT.of h1)
  exact (proves_law hT d).rsub (fun _ h=>by simpa using h)
 refine (law_calls Tryz.func4 rfl rfl hlaw).mono fun e W' ⟨he,bel⟩=>?_
 subst he
 exact ⟨_,rfl,_,_,_,[],_,[],hW',trodAll_mk1 (shut_bool Tryz.underlying4 _),(trodAll_cons_mk (Below.trod Tryz.laidOut (by kernel_rfl) (of_decide_eq_true (by kernel_rfl)) h0 bel lt0) (trodAll_cons_mk (Below.trod Tryz.laidOut (by kernel_rfl) (of_decide_eq_true (by kernel_rfl)) h1 bel lt1) trodAll_mk0)),rfl,bel.frame _,fun h=>by cases h⟩
theorem plannerProves_holds:Rows.PlannerProvesSaid:=
 OpenClaim.holds_of_wide 4 Tryz.f4 rfl rfl rfl rfl rfl rfl rfl ⟨rfl,rfl,rfl,rfl,rfl⟩ rfl rfl rfl rfl rfl (by kernel_rfl) Tryz.func4 (by kernel_rfl)
  (of_decide_eq_true (by kernel_rfl)) (by unfold Func.isWrapper; first | (rw [if_pos (by decide +kernel)]; kernel_rfl) | (rw [if_neg (by decide +kernel)]; exact ⟨rfl,rfl⟩))
  (fun os started H enc _=>plannerProves_lifted os started H enc)
end Go.Proofs.YtphehihohghfoaaGreat
