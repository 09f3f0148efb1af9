/- Texts of this proof, one after the other; no conditions. -/
import Derived.Test.YtjehnjhkcmobcaaGreatWB13
import Derived.Test.YtjehnjhkcmobcaaGreatWB3
import Derived.Test.YtjehnjhkcmobcaaGreatWB14
import Derived.Test.YtjehnjhkcmobcaaGreatWB9
import Derived.Test.YtjehnjhkcmobcaaGreatWB7
import Derived.Test.YtjehnjhkcmobcaaGreatWB11
import Derived.Test.YtjehnjhkcmobcaaGreatWB10
import Derived.Test.YtjehnjhkcmobcaaGreatWB12
import Derived.Test.YtjehnjhkcmobcaaGreatWB2
import Derived.Test.YtjehnjhkcmobcaaGreatWB5
set_option linter.all false
/- The document's demands, answered one after the other. -/
namespace Go.Proofs.YtjehnjhkcmobcaaGreat
open Go.Eng Go.Step
set_option maxRecDepth 100000
set_option maxHeartbeats 64000000
theorem Matrix54_spec {ρ τ σ υ:PH} (δ:PH) {pq pc pb ph:Option Addr} {kq kc kb kh:Nat} {qs:List Int} {cs:List Ct} {bs:List Bk} {hs:List Hd} (hT:TbAt ρ τ σ υ pq pc pb ph kq kc kb kh qs cs bs hs) (v:Value) (l:List Dm) (hv:SlE encD 5 δ v l) (hll:l.length≤1000) (hch:hs.length≤kh) :
  Eng.Spec Tryz.prog (fv 17) [.agg #[.slice pq qs.length kq,.slice pc cs.length kc,.slice pb bs.length kb,.slice ph hs.length kh],v] [ρ,τ,σ,υ,δ] [] (fun r H'=>∃ (pu:Option Addr) (ku:Nat) (e:Int) (raw:List (Value × Value × Value × Value)) (an:List An) (σu γ:PH),r=.tuple #[.slice pu raw.length ku,int e]∧H'=[σu,γ]∧raw.length≤ku∧SlE enc4 4 σu (.slice pu raw.length ku) raw∧AnsL γ raw an∧MtxR qs cs bs hs l an e):=by
 obtain ⟨pl,kl,rfl,hr⟩:=hv.val encD_len
 refine spec_in (cap:=[]) Tryz.func17 rfl rfl Tryz.ntmps17 rfl envZ (fun N β=>?_)
 refine Aa ?_;refine BH (BO rfl) rfl rfl rfl ?_;rintro _ _ ⟨b2,rfl,rfl⟩;refine Afv ?_;refine BZ ?_;refine Aal ?_;refine Aa ?_;refine AZ ?_; rintro _ _ ⟨b,rfl,rfl⟩;refine Adt ?_
 revert b; intro bo
 refine BA [1,2] (X:=Nat × List An × (Value × List (Value × Value × Value × Value) × PH) × PH × (List Bk × List Hd) × ((Option Addr × Nat) × PH) × ((Option Addr × Nat) × PH)) (0,[],(.slice (some ⟨bo,0,none⟩) 0 0,[],sng bo (.cells #[] 42 (0,0))),emp,(bs,hs),((pb,kb),emp),((ph,kh),emp)) (fun x=>x.1≤l.length∧MxS qs cs bs hs (l.take x.1) x.2.1 x.2.2.2.2.1.1 x.2.2.2.2.1.2∧OwnS 42 4 x.2.2.1.1 x.2.2.1.2.1.length (x.2.2.1.2.1.flatMap enc4) x.2.2.1.2.2∧AnsL x.2.2.2.1 x.2.2.1.2.1 x.2.1∧(SlE encB 4 σ (.slice x.2.2.2.2.2.1.1.1 x.2.2.2.2.1.1.length x.2.2.2.2.2.1.1.2) x.2.2.2.2.1.1∨SlE encB 4 x.2.2.2.2.2.1.2 (.slice x.2.2.2.2.2.1.1.1 x.2.2.2.2.1.1.length x.2.2.2.2.2.1.1.2) x.2.2.2.2.1.1)∧(HdAt υ (.slice x.2.2.2.2.2.2.1.1 x.2.2.2.2.1.2.length x.2.2.2.2.2.2.1.2) x.2.2.2.2.1.2∨HdAt x.2.2.2.2.2.2.2 (.slice x.2.2.2.2.2.2.1.1 x.2.2.2.2.1.2.length x.2.2.2.2.2.2.1.2) x.2.2.2.2.1.2)∧x.2.2.2.2.1.1.length≤9223372036854775807∧x.2.2.2.2.1.2.length≤9223372036854775807∧x.2.2.2.2.1.2.length≤x.2.2.2.2.2.2.1.2) (fun x=>[(7,int x.1),(6,x.2.2.1.1)]) (fun x=>[sng b2 (.cells #[.slice pq qs.length kq,.slice pc cs.length kc,.slice x.2.2.2.2.2.1.1.1 x.2.2.2.2.1.1.length x.2.2.2.2.2.1.1.2,.slice x.2.2.2.2.2.2.1.1 x.2.2.2.2.1.2.length x.2.2.2.2.2.2.1.2] 29 (0,0)),x.2.2.1.2.2,x.2.2.2.1,x.2.2.2.2.2.1.2,x.2.2.2.2.2.2.2]) (fun x=>l.length-x.1) pickZ ⟨by dsimp only; omega,⟨rfl,rfl,rfl⟩,OwnS.empty,AnsL.nil _,.inl hT.hb,.inl hT.hh,hT.lb,hT.lh,hch⟩ covZ selZ ?_
 rintro ⟨k,an,⟨u,raw,σu⟩,γ,⟨bs1,hs1⟩,⟨⟨p5,k5⟩,χb⟩,⟨⟨p6,k6⟩,χh⟩⟩ ⟨hk,hS,hO,hA,hB,hH,lb1,lh1,lc6⟩
 dsimp only at hk hS hO hA hB hH lb1 lh1 lc6 ⊢
 by_cases hlt:k<l.length
 rotate_left
 ·have hke:k=l.length:=by omega
  rw [hke,List.take_length] at hS
  obtain ⟨pu,ku,rfl,hcu⟩:=hO.formC
  refine Aci ?_;refine Afh ?_;exact AO (res2 rfl rfl rfl) rsubZ selZ ⟨pu,ku,0,raw,an,σu,γ,rfl,rfl,hcu,hO.at,hA,.inl ⟨rfl,bs1,hs1,hS⟩⟩
 have hx:=List.getElem?_eq_getElem hlt
 have hrl:raw.length≤1000:=by
  have h1:=hA.1
  have h2:=hS.len
  rw [List.length_take] at h2;omega
 have hsn:l.take (k+1)=l.take k ++ [l[k]]:=List.take_succ_eq_append_getElem hlt
 obtain ⟨b15,o15,rfl,hrd⟩:=hr k _ hx
 generalize l[k]=d at hx hsn hrd
 have hrd2:RdN δ b15 (o15+k*5) [int d.s,int d.d,int d.v,int d.r,int d.e]:=hrd
 obtain ⟨σ',hσ',hB'⟩:∃ σ',(σ'=σ∨σ'=χb)∧SlE encB 4 σ' (.slice p5 bs1.length k5) bs1:=by
  rcases hB with h|h
  ·exact ⟨σ,.inl rfl,h⟩
  ·exact ⟨χb,.inr rfl,h⟩
 obtain ⟨υ',hυ',hH'⟩:∃ υ',(υ'=υ∨υ'=χh)∧HdAt υ' (.slice p6 hs1.length k6) hs1:=by
  rcases hH with h|h
  ·exact ⟨υ,.inl rfl,h⟩
  ·exact ⟨χh,.inr rfl,h⟩
 have hT1:TbAt ρ τ σ' υ' pq pc p5 p6 kq kc k5 k6 qs cs bs1 hs1:=⟨hT.hq,hT.hc,hT.hcap,hT.lq,hT.lc,hB',lb1,hH',lh1⟩
 refine Afv ?_;refine BZ ?_;refine Ad9 ?_
 refine DR (X:=Nat × (Value × Value × Value × Value) × Int × (PH × PH × PH)) [1,2,6,7] (fun x=>(validT qs cs bs1 hs1 d=true∧x.2.2.1=0∧∃ a:An,PlanA qs cs bs1 hs1 d a∧AnsAt x.2.2.2.1 x.2.2.2.2.1 x.2.2.2.2.2 (.agg #[x.2.1.1,x.2.1.2.1,x.2.1.2.2.1,x.2.1.2.2.2]) a.acc a.vol a.ss a.c)∨(validT qs cs bs1 hs1 d=false∧x.2.2.1=1∧x.2.1=(.bool false,int 0,.slice none 0 0,.slice none 0 0))) (fun x=>[(8,.pointer (some ⟨x.1,0,none⟩)),(9,int x.2.2.1)]) (fun x=>[sng x.1 (.cells #[x.2.1.1,x.2.1.2.1,x.2.1.2.2.1,x.2.1.2.2.2] 42 (0,0)),x.2.2.2.1,x.2.2.2.2.1,x.2.2.2.2.2,sng b2 (.cells #[.slice pq qs.length kq,.slice pc cs.length kc,.slice p5 bs1.length k5,.slice p6 hs1.length k6] 29 (0,0)),σu,γ,χb,χh]) pickZ ?_ ?_
 ·refine A6 (.q 0 (.q 1 (.q 2 (.q 3 (.q 4 (.l2 5 .e (.q 6 (.q 7 (.p 8 (.l 9 .e (.l 10 .b (.q 11 .nil)))))) 9 .e (.l 5 .e (.q 6 (.q 7 (.p 8 (.l 10 .b (.q 11 .nil)))))))))))) [] rfl (by kernel_rfl) Sel.nil ?_
  repeat' (first
   | (refine AI ?_)
   | (refine B4 ?_)
   | (refine DQ ?_)
   | (refine BB ?_)
   | (refine BJ ?_)
   | (refine EU ?_)
   | (focus ((refine GK rfl (refPlan_spec hT1 d) rfl rfl (RdOK.consR memZ (RdOK.consR memZ (RdOK.consE hσ' memZ memZ (RdOK.consE hυ' memZ memZ RdOK.nil)))) rfl rfl ?_; rintro _ _ (⟨hvd,acc,vol,ss,c,a,σ1,σ2,σ3,rfl,rfl,hP,p1,k1,L,p2,k2,rfl,hSh,hC,hcL⟩|⟨hvd,rfl,rfl⟩))))
   | (focus ((refine CF (GK rfl (refPlan_spec hT1 d) rfl rfl (RdOK.consR memZ (RdOK.consR memZ (RdOK.consE hσ' memZ memZ (RdOK.consE hυ' memZ memZ RdOK.nil)))) rfl rfl ?_); rintro _ _ (⟨hvd,acc,vol,ss,c,a,σ1,σ2,σ3,rfl,rfl,hP,p1,k1,L,p2,k2,rfl,hSh,hC,hcL⟩|⟨hvd,rfl,rfl⟩))))
   | (refine A7 ?_)
   | (refine DS ?_ ?_)
   | (focus ((refine C3 ?_)))
   | (refine C5 ?_; rintro _ _ ⟨b,rfl,rfl⟩)
   | (refine CS ?_; rintro _ _ ⟨b,rfl,rfl⟩)
   | fail)
  all_goals first
   | exact B5 (_,(.bool acc,int vol,.slice p1 ss.length k1,.slice p2 L.length k2),0,(σ1,σ2,σ3)) (.inl ⟨hvd,rfl,⟨acc,vol,ss,c⟩,hP,p1,k1,L,p2,k2,rfl,hSh,hC,hcL⟩) covZ selZ
   | exact B5 (_,(.bool false,int 0,.slice none 0 0,.slice none 0 0),1,(emp,emp,emp)) (.inr ⟨hvd,rfl,rfl⟩) covZ selZ
 rintro ⟨b8,⟨a1,a2,a3,a4⟩,e9,⟨σ1,σ2,σ3⟩⟩ hx9
 dsimp only at hx9 ⊢
 rcases hx9 with ⟨hvd,rfl,⟨acc,vol,ss,c⟩,hP,hAn⟩|⟨hvd,rfl,h9⟩
 rotate_left
 ·refine AC ?_
  refine Aac ?_;refine Ae0 ?_;refine AZ ?_; rintro _ _ ⟨b,rfl,rfl⟩;refine AB ?_;refine Aal ?_
  exact AO (res2 rfl rfl rfl) rsubZ selZ ⟨_,_,1,[],[],σu,γ,rfl,rfl,Nat.zero_le _,⟨rfl,.inl ⟨rfl,_,_,rfl⟩⟩,AnsL.nil _,.inr ⟨by decide,rfl,k,d,bs1,hs1,an,hx,hS,.inl ⟨hvd,rfl⟩⟩⟩
 have hpl:=plan_len (vok hvd) hP
 have hAn2:=hAn
 obtain ⟨p1,k1,L,p2,k2,h9,hSh,hC,hcL⟩:=hAn2
 simp only [Value.agg.injEq,Array.mk.injEq,List.cons.injEq,and_true] at h9
 obtain ⟨rfl,rfl,rfl,rfl⟩:=h9
 dsimp only at hSh hpl
 refine Aah ?_;refine Abh ?_;refine Abt ?_;refine Aad ?_;refine BL (Reserve54_spec σ1 hT1 _ ss hSh hpl.1 lc6) rfl rfl Takes.nil (RdOK.consR memZ (RdOK.consR memZ (RdOK.consE hσ' memZ memZ (RdOK.consE hυ' memZ memZ (RdOK.consH memZ RdOK.nil))))) rfl rfl ?_;rintro _ _ (⟨e,he,rfl,rfl,hR⟩|⟨bs2,hs2,p7,k7,p8,k8,σ7,σ8,rfl,rfl,hR,l5,l6,l7,hB2,hH2⟩)
 ·refine AB ?_
  refine Aa8 ?_;refine AY ?_; rintro _ _ ⟨rfl,rfl⟩;refine Adz ?_;refine Ae0 ?_;refine AZ ?_; rintro _ _ ⟨b,rfl,rfl⟩;refine AB ?_;refine Aal ?_;exact AO (res2 rfl rfl rfl) rsubZ selZ ⟨_,_,e,[],[],σu,γ,rfl,rfl,Nat.zero_le _,⟨rfl,.inl ⟨rfl,_,_,rfl⟩⟩,AnsL.nil _,.inr ⟨he,rfl,k,d,bs1,hs1,an,hx,hS,.inr ⟨hvd,⟨acc,vol,ss,c⟩,[],[],hP,hR⟩⟩⟩
 refine Ab ?_;refine AY ?_; rintro _ _ ⟨rfl,rfl⟩;refine Adz ?_;refine Abh ?_;refine Ade ?_;refine AV ?_;refine AZ ?_; rintro _ _ ⟨b,rfl,rfl⟩
 refine BH (BI (by_:=64) (s:=4) (news:=[.bool acc,int vol,.slice p1 ss.length k1,.slice p2 L.length k2]) rfl rfl rfl rfl rfl rfl rfl hO takeZ (cells_own memZ) rfl oneZ (by omega) (by simp only [maxLen]; omega) (by omega)) rfl rfl rfl ?_
 rintro u1 _ ⟨σu1,hO1,rfl⟩;refine Adb ?_
 refine DC (ρ:=γ) (σ:=σ1) takeZ takeZ (fun g1 a1 a2=>?_)
 refine DC (ρ:=g1) (σ:=σ2) takeZ takeZ (fun g2 a3 a4=>?_)
 refine DC (ρ:=g2) (σ:=σ3) takeZ takeZ (fun g3 a5 a6=>?_)
 refine DC (ρ:=χb) (σ:=σ7) takeZ takeZ (fun gb c1 c2=>?_)
 refine DC (ρ:=χh) (σ:=σ8) takeZ takeZ (fun gh c3 c4=>?_)
 have hB3:SlE encB 4 σ (.slice p7 bs2.length k7) bs2∨SlE encB 4 gb (.slice p7 bs2.length k7) bs2:=by
  rcases hB2 with h|h
  ·rcases hσ' with rfl|rfl
   ·exact .inl h
   ·exact .inr (c1.slE h)
  ·exact .inr (c2.slE h)
 have hH3:HdAt υ (.slice p8 hs2.length k8) hs2∨HdAt gh (.slice p8 hs2.length k8) hs2:=by
  rcases hH2 with h|h
  ·rcases hυ' with rfl|rfl
   ·exact .inl h
   ·exact .inr (c3.slE h)
  ·exact .inr (c4.slE h)
 refine AT (k+1,an ++ [⟨acc,vol,ss,c⟩],(u1,raw ++ [(.bool acc,int vol,.slice p1 ss.length k1,.slice p2 L.length k2)],σu1),g3,(bs2,hs2),((p7,k7),gb),((p8,k8),gh)) ⟨by dsimp only; omega,?_,?_,?_,hB3,hH3,by dsimp only; omega,by dsimp only; omega,l7⟩ (by dsimp only; omega) covZ selZ
 ·dsimp only
  rw [hsn];exact hS.snoc hvd hP hR
 ·dsimp only
  rw [List.length_append,List.flatMap_append];exact hO1
 ·dsimp only
  refine hA.snoc ((a1.trans a3).trans a5) ?_;exact hAn.sub ((a2.trans a3).trans a5) (a4.trans a5) a6
end Go.Proofs.YtjehnjhkcmobcaaGreat
namespace Go.Step
variable {qs:List Int} {cs:List Ct} {bs:List Bk} {hs:List Hd} {d:Dm}
def atE (d:Dm) (t:Int):Dm:=⟨d.s,d.d,d.v,d.r,t⟩
open Classical in
noncomputable def mostV (qs:List Int) (cs:List Ct) (bs:List Bk) (hs:List Hd) (d:Dm):Int:=if h:∃ m F,MaxN qs cs bs hs d F m 0 then Classical.choose h else 0
theorem mostV_eq {F:List Int} {m:Int} (hm:MaxN qs cs bs hs d F m 0):mostV qs cs bs hs d=m:=by
  have h:∃ m F,MaxN qs cs bs hs d F m 0:=⟨m,F,hm⟩
  unfold mostV;rw [dif_pos h]
  obtain ⟨G,hG⟩:=Classical.choose_spec h
  exact (hG.uniq hm).2.1
noncomputable def mostK (qs:List Int) (cs:List Ct) (bs:List Bk) (hs:List Hd) (d:Dm) (k:Nat):Int:=if k=0 then 0 else mostV qs cs bs hs (atE d (d.r+k))
noncomputable def curveK (qs:List Int) (cs:List Ct) (bs:List Bk) (hs:List Hd) (d:Dm):Nat→List Lv
  | 0=>[]
  | k+1=>curveK qs cs bs hs d k ++ (if mostK qs cs bs hs d (k+1)≠mostK qs cs bs hs d k then [⟨d.r+(k+1:Nat),mostK qs cs bs hs d (k+1)⟩] else [])
theorem curveK_len (qs:List Int) (cs:List Ct) (bs:List Bk) (hs:List Hd) (d:Dm):∀ k,(curveK qs cs bs hs d k).length≤k
  | 0=>Nat.le_refl _
  | k+1=>by
    have:=curveK_len qs cs bs hs d k
    unfold curveK;rw [List.length_append]
    split <;> simp <;> omega
theorem valid_at (hv:validT qs cs bs hs d=true) {k:Nat} (h1:d.r+(k+1:Nat)≤d.e):validT qs cs bs hs (atE d (d.r+(k+1:Nat)))=true:=by
  obtain ⟨h,hd⟩:=of_decide_eq_true hv
  refine decide_eq_true ⟨h,?_⟩;unfold okDm at hd ⊢;unfold atE
  dsimp only
  omega
theorem mostK_eq {k:Nat} {F:List Int} {m:Int} (hm:MaxN qs cs bs hs (atE d (d.r+(k+1:Nat))) F m 0):mostK qs cs bs hs d (k+1)=m:=by
  unfold mostK
  rw [if_neg (by omega)]
  exact mostV_eq hm
end Go.Step
namespace Go.Proofs.YtjehnjhkcmobcaaGreat
open Go.Eng Go.Step
set_option maxRecDepth 100000
set_option maxHeartbeats 64000000
theorem Curve_spec {ρ τ σ υ:PH} {pq pc pb ph:Option Addr} {kq kc kb kh:Nat} {qs:List Int} {cs:List Ct} {bs:List Bk} {hs:List Hd} (hT:TbAt ρ τ σ υ pq pc pb ph kq kc kb kh qs cs bs hs) (d:Dm):Makes Tryz.prog (fv 25) [.agg #[.slice pq qs.length kq,.slice pc cs.length kc,.slice pb bs.length kb,.slice ph hs.length kh],.agg #[int d.s,int d.d,int d.v,int d.r,int d.e]] [ρ,τ,σ,υ] (fun r χ=>∃ u,r=.tuple #[u,int (if validT qs cs bs hs d=true then 0 else 1)]∧OwnS 72 2 u (if validT qs cs bs hs d=true then curveK qs cs bs hs d (d.e-d.r).toNat else []).length ((if validT qs cs bs hs d=true then curveK qs cs bs hs d (d.e-d.r).toNat else []).flatMap encV) χ∧(validT qs cs bs hs d=true→∀ j,j<(d.e-d.r).toNat→∃ F m,MaxN qs cs bs hs (atE d (d.r+((j+1:Nat):Int))) F m 0)):=by
 refine spec_in (cap:=[]) Tryz.func25 rfl rfl Tryz.ntmps25 rfl envZ (fun N β=>?_)
 refine Aa ?_;refine BH (BO rfl) rfl rfl rfl ?_;rintro _ _ ⟨b1,rfl,rfl⟩;refine AW (ρ:=sng b1 _) takeZ ?_
 have ct:=rdB b1 29 [.slice pq qs.length kq,.slice pc cs.length kc,.slice pb bs.length kb,.slice ph hs.length kh]
 have ct0:=rdC ct 0
 have ct1:=rdC ct 1
 have ct2:=rdC ct 2
 have ct3:=rdC ct 3
 have ctp:=rdQ (xs:=[_,_]) ct
 refine BH (BO rfl) rfl rfl rfl ?_;rintro _ _ ⟨b2,rfl,rfl⟩;refine AW (ρ:=sng b2 _) takeZ ?_
 have cd:=rdB b2 31 [int d.s,int d.d,int d.v,int d.r,int d.e]
 have cd0:=rdC cd 0
 have cd1:=rdC cd 1
 have cd2:=rdC cd 2
 have cd3:=rdC cd 3
 have cd4:=rdC cd 4
 refine BZ ?_;refine Aal ?_;refine AC ?_;refine Acu ?_;refine BV (Graph_spec hT d) rfl rfl rdZ rfl rfl ?_;rintro _ σg hg
 by_cases hv:validT qs cs bs hs d=true
 rotate_left
 ·rw [if_neg hv] at hg
  obtain ⟨rfl,rfl⟩:=hg
  rw [if_neg hv,if_neg hv];refine Ab ?_;refine A4 ?_; rintro _ _ ⟨b,rfl,rfl⟩;refine AY ?_; rintro _ _ ⟨rfl,rfl⟩;refine Abr ?_;refine Ae0 ?_;refine Aal ?_
  exact AO (res2 rfl rfl rfl) rsubZ selZ ⟨emp,⟨_,rfl,OwnS.nil _ _,fun hh=>absurd hh hv⟩,rfl⟩
 rw [if_pos hv] at hg
 obtain ⟨ug,rfl,hOg⟩:=hg
 obtain ⟨pg,kg,rfl⟩:=hOg.form
 rw [if_pos hv,if_pos hv]
 have h:=vok hv
 have hdm:=h.dm
 unfold okDm at hdm;refine Ab ?_;refine A4 ?_; rintro _ _ ⟨b,rfl,rfl⟩;refine AY ?_; rintro _ _ ⟨rfl,rfl⟩;refine Ahd ?_;refine Aai ?_;refine Aai ?_;refine AC ?_;refine Aas ?_;refine Adv ?_;refine AM ?_
 refine BA [2,3] (X:=Nat × Value × PH) (0,.slice none 0 0,emp) (fun z=>z.1≤(d.e-d.r).toNat∧(∀ j,j<z.1→∃ F m,MaxN qs cs bs hs (atE d (d.r+((j+1:Nat):Int))) F m 0)∧OwnS 72 2 z.2.1 (curveK qs cs bs hs d z.1).length ((curveK qs cs bs hs d z.1).flatMap encV) z.2.2) (fun z=>[(10,int (d.r+(z.1+1:Nat))),(9,int (mostK qs cs bs hs d z.1)),(8,z.2.1)]) (fun z=>[z.2.2]) (fun z=>(d.e-d.r).toNat-z.1) pickZ ⟨by dsimp only; omega,fun j hj=>by dsimp only at hj; omega,OwnS.nil _ _⟩ covZ selZ ?_
 rintro ⟨k,u,σo⟩ ⟨hk,hex,hO⟩
 dsimp only at hk hex hO ⊢
 by_cases hlt:k<(d.e-d.r).toNat
 rotate_left
 ·have hke:k=(d.e-d.r).toNat:=by omega
  subst hke;refine Ac9 ?_;refine DB ?_;refine Aa7 ?_;refine Afh ?_
  exact AO (res2 rfl rfl rfl) rsubZ selZ ⟨σo,⟨u,rfl,hO,fun _=>hex⟩,rfl⟩
 have hv2:validT qs cs bs hs ⟨d.s,d.d,d.v,d.r,d.r+(k+1:Nat)⟩=true:=valid_at hv (by omega)
 have hM:=Most_spec hT ⟨d.s,d.d,d.v,d.r,d.r+(k+1:Nat)⟩
 have hcl:=curveK_len qs cs bs hs d k
 have hcn:curveK qs cs bs hs d (k+1)=curveK qs cs bs hs d k ++ (if mostK qs cs bs hs d (k+1)≠mostK qs cs bs hs d k then [⟨d.r+(k+1:Nat),mostK qs cs bs hs d (k+1)⟩] else []):=rfl
 have hnx:d.r+((k+1:Nat):Int)+1=d.r+(((k+1)+1:Nat):Int):=by omega
 refine Ac9 ?_;refine C9 ?_;refine Aa1 ?_;refine Abt ?_;refine A4 ?_; rintro _ _ ⟨b,rfl,rfl⟩;refine AY ?_; rintro _ _ ⟨rfl,rfl⟩;refine Aej ?_;refine AG ?_;refine BS ?_; rintro _ _ ⟨rfl,rfl⟩;refine AE ?_;refine Acu ?_
 revert b; intro bd
 refine BC hM rfl rfl rdZ rfl rfl ?_;rintro _ (⟨_,F,m,hm,rfl⟩|⟨hv3,rfl⟩)
 rotate_left
 ·rw [hv2] at hv3; simp at hv3
 have hex2:∀ j,j<k+1→∃ F m,MaxN qs cs bs hs (atE d (d.r+((j+1:Nat):Int))) F m 0:=fun j hj=>by
  by_cases hjk:j<k
  ·exact hex j hjk
  ·have:j=k:=by omega
   subst this;exact ⟨F,m,hm⟩
 have hmk:mostK qs cs bs hs d (k+1)=m:=mostK_eq hm
 rw [hmk] at hcn
 generalize mostK qs cs bs hs d k=M0 at hcn
 generalize curveK qs cs bs hs d k=C0 at hO hcl hcn
 by_cases hc:m=M0
 ·rw [if_neg (fun hh=>hh hc),List.append_nil] at hcn
  refine Adi ?_;refine Abh ?_;refine Aay ?_;refine Abh ?_;refine Agu ?_
  refine AT (k+1,u,σo) ⟨by dsimp only; omega,hex2,by dsimp only; rw [hcn]; exact hO⟩ (by dsimp only; omega) ?_ selZ
  dsimp only
  rw [hmk,← hnx,hc];exact covZ
 ·rw [if_pos hc] at hcn
  refine Adi ?_;refine Abh ?_;refine Aay ?_;refine CJ ?_;refine Ac0 ?_;refine Aao ?_;refine BY ?_;refine AZ ?_; rintro _ _ ⟨b,rfl,rfl⟩
  refine BH (BI (by_:=16) (s:=2) (news:=[int (d.r+((k+1:Nat):Int)),int m]) rfl rfl rfl rfl rfl rfl rfl hO takeZ (cells_own memZ) rfl oneZ (by omega) (by simp only [maxLen]; omega) (by omega)) rfl rfl rfl ?_
  rintro u1 _ ⟨σ1,hO1,rfl⟩;refine Aaa ?_;refine Ade ?_;refine Aaa ?_;refine Agu ?_
  refine AT (k+1,u1,σ1) ⟨by dsimp only; omega,hex2,?_⟩ (by dsimp only; omega) ?_ selZ
  ·dsimp only
   rw [hcn,List.length_append,List.flatMap_append];exact hO1
  ·dsimp only
   rw [hmk,← hnx];exact covZ
end Go.Proofs.YtjehnjhkcmobcaaGreat
namespace Go.Step
open Go.Flow (Flw fval inCap)
def e9:List Int:=[9,1,9]
def eD5:Dm:=⟨0,2,5,0,6⟩
theorem e9Valid:validT e9 eC [] [] eD=true:=by decide +kernel
theorem e9Valid5:validT e9 eC [] [] eD5=true:=by decide +kernel
theorem e9Arcs:arcsE e9 eC [] [] eD=eA:=by decide +kernel
theorem e9Arcs5:arcsE e9 eC [] [] eD5=eA:=by decide +kernel
theorem e9G:arcsG e9 eC [] [] eD=arcsG eQ eC [] [] eD:=by rw [eG]; unfold arcsG; rw [e9Arcs]
theorem e9G5:arcsG e9 eC [] [] eD5=arcsG eQ eC [] [] eD:=by rw [eG]; unfold arcsG; rw [e9Arcs5]
theorem e9Max (hok:VOk eQ eC [] [] eD) {F:List Int} {m e:Int} (hm:MaxN e9 eC [] [] eD F m e):m=4:=by
  have h:MaxN eQ eC [] [] eD F m e:=by
    unfold MaxN at hm ⊢;rw [e9G] at hm;exact hm
  exact (eMax hok h).2.1
theorem e9Max5 (hok:VOk eQ eC [] [] eD) {F:List Int} {m e:Int} (hm:MaxN e9 eC [] [] eD5 F m e):m=4:=by
  have h:MaxN eQ eC [] [] eD F m e:=by
    unfold MaxN at hm ⊢;rw [e9G5] at hm;exact hm
  exact (eMax hok h).2.1
def eL:List Sh:=[⟨0,0,1⟩,⟨0,1,3⟩,⟨1,3,3⟩,⟨1,4,1⟩]
theorem eShipsL {F:List Int} (hf:Flw 21 (arcsG eQ eC [] [] eD) 0 20 F) (hv:fval 0 (arcsG eQ eC [] [] eD) F=4):shipsF eA F=eL:=by
  rw [eG] at hf hv
  have hl:=hf.len
  have hc:=hf.cap
  have e0:=hf.bal 1 (by omega) (by omega) (by omega)
  have e7:=hf.bal 7 (by omega) (by omega) (by omega)
  have e8:=hf.bal 8 (by omega) (by omega) (by omega)
  have e9:=hf.bal 9 (by omega) (by omega) (by omega)
  have e10:=hf.bal 10 (by omega) (by omega) (by omega)
  have e11:=hf.bal 11 (by omega) (by omega) (by omega)
  have e12:=hf.bal 12 (by omega) (by omega) (by omega)
  have e13:=hf.bal 13 (by omega) (by omega) (by omega)
  have e2:=hf.bal 2 (by omega) (by omega) (by omega)
  have e3:=hf.bal 3 (by omega) (by omega) (by omega)
  have e4:=hf.bal 4 (by omega) (by omega) (by omega)
  have e5:=hf.bal 5 (by omega) (by omega) (by omega)
  have e6:=hf.bal 6 (by omega) (by omega) (by omega)
  clear hf
  match F,hl with
  | [a0,a1,a2,a3,a4,a5,a6,a7,a8,a9,a10,a11,a12,a13,a14,a15,a16,a17,a18,a19,a20,a21],_ =>
    simp [eA,fval] at hv e0 e7 e8 e9 e10 e11 e12 e13 e2 e3 e4 e5 e6
    simp [eA,inCap] at hc
    have h18:a18=1:=by omega
    have h19:a19=3:=by omega
    have h20:a20=3:=by omega
    have h21:a21=1:=by omega
    subst h18 h19 h20 h21
    simp [eA,shipsF,eL]
theorem e9Plan (hq:VOk eQ eC [] [] eD) (hok:VOk e9 eC [] [] eD) {acc:Bool} {vol:Int} {ss:List Sh} {c:Cu} (hp:PlanOK e9 eC [] [] eD acc vol ss c):acc=true∧vol=4∧ss=eL∧c=[]:=by
  obtain ⟨F,m,hm,hp⟩:=hp
  have h4:=e9Max hq hm
  subst h4
  rcases hp with ⟨a1,_⟩|⟨a1,a2,a3,a4,ps,a5,a6⟩
  · exact absurd a1 (by decide)
  refine ⟨a2,a3,?_,a4⟩
  obtain ⟨N,S,T,hN,hS,hT,hf,hv,_⟩:=part_ok hok e9Valid hm a5 a1
  have n1 : N = 21 := by have : vsN e9 eD = 21 := by decide +kernel
                         omega
  have n2 : S = 0 := by have : vtx eD eD.s eD.r = 0 := eS
                        omega
  have n3 : T = 20 := by have : vtx eD eD.d eD.e = 20 := eT
                         omega
  subst n1 n2 n3;rw [e9G] at hf hv;rw [a6,e9Arcs];exact eShipsL hf hv
theorem e9Plan5 (hq:VOk eQ eC [] [] eD) {acc:Bool} {vol:Int} {ss:List Sh} {c:Cu} (hp:PlanOK e9 eC [] [] eD5 acc vol ss c):acc=false∧vol=4∧c.length=3:=by
  obtain ⟨F,m,hm,hp⟩:=hp
  have h4:=e9Max5 hq hm
  subst h4
  rcases hp with ⟨a1,a2,a3,a4,side,k,_,a6⟩|⟨a1,_⟩
  · exact ⟨a2,a3,by rw [a6,sidesC_len]; rfl⟩
  · exact absurd a1 (by decide)
theorem max_val {qs:List Int} {cs:List Ct} {bs:List Bk} {hs:List Hd} {d:Dm} (h:VOk qs cs bs hs d) {F fl:List Int} {m e v:Int} {N S T:Nat} (hm:MaxN qs cs bs hs d F m e) (hN:vsN qs d=N) (hS:vtx d d.s d.r=S) (hT:vtx d d.d d.e=T) (hf:Flw N (arcsG qs cs bs hs d) S T fl) (hv:fval S (arcsG qs cs bs hs d) fl=v) {P:Int→Int→Bool} (h1:P d.s d.r=true) (h2:P d.d d.e=false) (hc:capB qs cs bs hs d P=v):m=v:=by
  obtain ⟨_,N',S',T',hN',hS',hT',hf',hv',P',p1,p2,p3⟩:=max_cut h hm
  have a:=flow_le_cap h hN' hS' hT' hf' h1 h2
  have b:=flow_le_cap h hN hS hT hf p1 p2
  omega
theorem e9Flow5:Flw 18 (arcsG e9 eC [] [] (atE eD 5)) 0 17 [3,0,0,0,0,0,0,0,0,0,0,0,0,0,0,0,3,3]:=by
  refine ⟨by decide +kernel,by decide +kernel,?_⟩
  have:∀ v:Fin 18,v.1≠0→v.1≠17→fval v.1 (arcsG e9 eC [] [] (atE eD 5)) [3,0,0,0,0,0,0,0,0,0,0,0,0,0,0,0,3,3]=0:=by decide +kernel
  exact fun v hv h1 h2=>this ⟨v,hv⟩ h1 h2
theorem e9Curve (hq:VOk eQ eC [] [] eD) (hok:∀ j:Nat,j<6→VOk e9 eC [] [] (atE eD (eD.r+((j+1:Nat):Int)))) (hex:∀ j:Nat,j<6→∃ F m,MaxN e9 eC [] [] (atE eD (eD.r+((j+1:Nat):Int))) F m 0):curveK e9 eC [] [] eD 6=[⟨5,3⟩,⟨6,4⟩]:=by
  have hz:∀ j:Nat,j<6→capB e9 eC [] [] (atE eD (eD.r+((j+1:Nat):Int))) (fun n _=>decide (n≠2))=0→mostK e9 eC [] [] eD (j+1)=0:=fun j hj hc=>by
    obtain ⟨F,m,hm⟩:=hex j hj
    rw [mostK_eq hm]
    have h0:=max_nonneg (hok j hj) hm
    obtain ⟨_,N,S,T,hN,hS,hT,hf,hv,_⟩:=max_cut (hok j hj) hm
    have:=flow_le_cap (hok j hj) hN hS hT hf (P:=fun n _=>decide (n≠2)) rfl rfl
    omega
  have m0:mostK e9 eC [] [] eD 0=0:=rfl
  have m1:=hz 0 (by omega) (by decide +kernel)
  have m2:=hz 1 (by omega) (by decide +kernel)
  have m3:=hz 2 (by omega) (by decide +kernel)
  have m4:=hz 3 (by omega) (by decide +kernel)
  have m5:mostK e9 eC [] [] eD 5=3:=by
    obtain ⟨F,m,hm⟩:=hex 4 (by omega)
    rw [show (5:Nat)=4+1 from rfl,mostK_eq hm]
    exact max_val (hok 4 (by omega)) hm (N:=18) (S:=0) (T:=17) (by decide +kernel) (by decide +kernel) (by decide +kernel) e9Flow5 (by decide +kernel) (P:=fun n _=>decide (n≠2)) rfl rfl (by decide +kernel)
  have m6:mostK e9 eC [] [] eD 6=4:=by
    obtain ⟨F,m,hm⟩:=hex 5 (by omega)
    rw [show (6:Nat)=5+1 from rfl,mostK_eq hm]
    exact e9Max hq hm
  unfold curveK curveK curveK curveK curveK curveK curveK;simp only [m0,m1,m2,m3,m4,m5,m6]
  decide
end Go.Step
namespace Go.Proofs.YtjehnjhkcmobcaaGreat
open Go.Eng Go.Step
set_option maxRecDepth 100000
set_option maxHeartbeats 64000000
theorem equalX_spec (ρ τ:PH) (v w:Value) (l m:List Sh) (hv:ShAt ρ v l) (hw:ShAt τ w m) (hl:l.length≤9223372036854775807) :
  Ans Tryz.prog (fv 26) [v,w] [ρ,τ] (fun r=>r=.bool (decide (l=m))):=by
 obtain ⟨q,c,rfl,hr⟩:=hv.val encX_len
 obtain ⟨q',c',rfl,hr'⟩:=hw.val encX_len
 refine spec_in (cap:=[]) Tryz.func26 rfl rfl Tryz.ntmps26 rfl envZ (fun N β=>?_)
 by_cases hlen:l.length=m.length
 rotate_left
 ·refine AC ?_
  refine AA ?_;refine Aaa ?_;refine Aew ?_;refine CJ ?_;refine Aba ?_
  exact AO (res1 rfl rfl) rsubZ selZ ⟨rfl,by rw [decide_eq_false (fun h=>hlen (by rw [h]))]⟩
 refine Ahh ?_;refine Acm ?_
 refine BA [0,1,12] (0:Nat) (fun k=>k≤l.length∧l.take k=m.take k) (fun k=>[(13,int k)]) (fun _=>[]) (fun k=>l.length-k) pickZ ⟨by omega,by simp⟩ covZ selZ ?_
 rintro k ⟨hk,hI⟩
 by_cases hlt:k<l.length
 ·have hx:=List.getElem?_eq_getElem hlt
  have hx':=List.getElem?_eq_getElem (show k<m.length by omega)
  obtain ⟨b1,o1,rfl,hRd1,_⟩:=shRow hr hx
  obtain ⟨b2,o2,rfl,hRd2,_⟩:=shRow hr' hx'
  refine Ac6 ?_;refine Abl ?_
  refine A6 P7Z [] rfl (by kernel_rfl) Sel.nil ?_
  refine Ae ?_;refine Ae ?_
  focus ((refine' C1 rfl _ rfl rfl rfl rfl _; rotate_left; (apply FQ [l[k].c,l[k].t,l[k].n] [m[k].c,m[k].t,m[k].n] (n:=3); exact rfl; exact rfl; kernel_rfl; kernel_rfl; kernel_rfl; exact rfl; exact rfl)))
  refine A7 ?_
  by_cases he:l[k]=m[k]
  ·rw [he]
   rw [show (!decide ([m[k].c,m[k].t,m[k].n]=[m[k].c,m[k].t,m[k].n]))=false by simp]
   skip
   refine Abd ?_;refine Abf ?_
   refine AT (k+1) ⟨by omega,?_⟩ (by omega) covZ selZ
   rw [List.take_succ_eq_append_getElem hlt,List.take_succ_eq_append_getElem (show k<m.length by omega),hI,he]
  ·have hne:¬ ([l[k].c,l[k].t,l[k].n]=[m[k].c,m[k].t,m[k].n]):=fun h=>he (by
    simp only [List.cons.injEq,and_true] at h
    generalize l[k]=x at *
    generalize m[k]=y at *
    obtain ⟨x1,x2,x3⟩:=x
    obtain ⟨y1,y2,y3⟩:=y
    simp only at h
    rw [h.1,h.2.1,h.2.2])
   rw [show (!decide ([l[k].c,l[k].t,l[k].n]=[m[k].c,m[k].t,m[k].n]))=true by simp only [decide_eq_false hne,Bool.not_false]]
   skip
   refine AL rfl ?_;refine Aai ?_
   exact AO (res1 rfl rfl) rsubZ selZ ⟨rfl,by rw [decide_eq_false (fun h=>he (by subst h; rfl))]⟩
 ·rw [List.take_of_length_le (by omega),List.take_of_length_le (by omega)] at hI
  refine Acd ?_;refine Aai ?_
  exact AO (res1 rfl rfl) rsubZ selZ ⟨rfl,by rw [decide_eq_true hI]⟩
theorem example54_spec:Eng.Spec Tryz.prog (fv 24) [] [] [] (fun r H'=>∃ bq bc,r=.tuple #[.agg #[.slice (some ⟨bq,0,none⟩) 3 3,.slice (some ⟨bc,0,none⟩) 2 2,.slice none 0 0,.slice none 0 0],.agg #[int 0,int 2,int 4,int 0,int 6]]∧H'=[sng bq (.cells #[int 9,int 1,int 9] 3 (0,0)),sng bc (.cells #[int 0,int 1,int 0,int 2,int 3,int 1,int 0,int 1,int 2,int 3,int 5,int 3,int 1,int 0] 114 (0,0))]):=by
 refine spec_in (cap:=[]) Tryz.func24 rfl rfl Tryz.ntmps24 rfl envZ (fun N β=>?_)
 refine Aa ?_;refine A4 ?_; rintro _ _ ⟨b,rfl,rfl⟩;refine A4 ?_; rintro _ _ ⟨b,rfl,rfl⟩;refine AE ?_;refine Aa ?_;refine AZ ?_; rintro _ _ ⟨b,rfl,rfl⟩;refine BY ?_;refine BY ?_
 focus ((refine' BH _ rfl rfl rfl _; rotate_left; (focus (apply DU; exact rfl; exact rfl; exact rfl; exact rfl; exact rfl; exact oneZ; exact Flat.agg7 (Flat.agg7 Flat.nil); exact rfl)); rintro _ _ ⟨b,rfl,rfl⟩))
 refine BY ?_
 revert b; intro bc
 revert b; intro bq
 revert b; intro bd
 revert b; intro bt
 refine CW (BW (out:=[.slice (some ⟨bq,0,none⟩) 3 3,.slice (some ⟨bc,0,none⟩) 2 2,.slice none 0 0,.slice none 0 0]) rfl rfl rfl rfl rfl) rfl rfl rfl ?_;refine BY ?_;refine AY ?_; rintro _ _ ⟨rfl,rfl⟩;refine AY ?_; rintro _ _ ⟨rfl,rfl⟩;refine AE ?_;exact AO (resS2 (b1:=bt) (b2:=bd) (T:=29) (U:=31) (v1:=[.slice (some ⟨bq,0,none⟩) 3 3,.slice (some ⟨bc,0,none⟩) 2 2,.slice none 0 0,.slice none 0 0]) (v2:=[int 0,int 2,int 4,int 0,int 6]) rfl rfl rfl rfl rfl rfl rfl (cells_own memZ) (cells_own memZ)) rsubZ selZ ⟨bq,bc,rfl,rfl⟩
theorem awake54_spec:Ans Tryz.prog (fv 7) [] [] (fun r=>r=.bool true):=by
 have hq:=vok eValid
 have hok:=vok e9Valid
 have hoks:∀ j:Nat,j<6→VOk e9 eC [] [] (atE eD (eD.r+((j+1:Nat):Int))):=fun j hj=>vok (valid_at e9Valid (show (0:Int)+((j+1:Nat):Int)≤6 by omega))
 refine spec_in (cap:=[]) Tryz.func7 rfl rfl Tryz.ntmps7 rfl envZ (fun N β=>?_)
 refine BZ ?_;refine Aai ?_;refine Aa ?_;refine BL example54_spec rfl rfl Takes.nil rdZ rfl rfl ?_;rintro _ _ ⟨bq,bc,rfl,rfl⟩;refine AW (ρ:=sng bq (.cells #[int 9,int 1,int 9] 3 (0,0))) takeZ ?_;refine AW (ρ:=sng bc (.cells #[int 0,int 1,int 0,int 2,int 3,int 1,int 0,int 1,int 2,int 3,int 5,int 3,int 1,int 0] 114 (0,0))) takeZ ?_;refine AW (ρ:=emp) takeZ ?_;refine Ab ?_;refine A4 ?_; rintro _ _ ⟨b,rfl,rfl⟩;refine A4 ?_; rintro _ _ ⟨b,rfl,rfl⟩;refine AY ?_; rintro _ _ ⟨rfl,rfl⟩;refine AY ?_; rintro _ _ ⟨rfl,rfl⟩;refine AE ?_;refine Acu ?_
 revert b; intro bd
 revert b; intro bt
 refine AW (ρ:=sng bt _) takeZ ?_
 have ct:=rdB bt 29 [.slice (some ⟨bq,0,none⟩) 3 3,.slice (some ⟨bc,0,none⟩) 2 2,.slice none 0 0,.slice none 0 0]
 have hT:TbAt (sng bq (.cells #[int 9,int 1,int 9] 3 (0,0))) (sng bc (.cells #[int 0,int 1,int 0,int 2,int 3,int 1,int 0,int 1,int 2,int 3,int 5,int 3,int 1,int 0] 114 (0,0))) emp emp (some ⟨bq,0,none⟩) (some ⟨bc,0,none⟩) none none 3 2 0 0 e9 eC [] []:=
  ⟨slE_sng (l:=e9) Eng.encI_len,slE_sng (l:=eC) encC_len,by decide,by decide,by decide,⟨rfl,.inl ⟨rfl,none,0,rfl⟩⟩,by decide,⟨rfl,.inl ⟨rfl,none,0,rfl⟩⟩,by decide⟩
 refine BL (Plan_spec hT eD) rfl rfl Takes.nil rdZ rfl rfl ?_;rintro _ _ (⟨_,acc,vol,ss,c,a,σ1,σ2,σ3,rfl,rfl,hPO,p1,k1,L,p2,k2,rfl,hS,hC,hL⟩|⟨hv,_⟩)
 rotate_left
 ·rw [e9Valid] at hv; simp at hv
 obtain ⟨rfl,rfl,rfl,rfl⟩:=e9Plan hq hok hPO
 refine AW (ρ:=σ1) takeZ ?_;refine Ab ?_;refine A4 ?_; rintro _ _ ⟨b,rfl,rfl⟩;refine AY ?_; rintro _ _ ⟨rfl,rfl⟩;refine Aaa ?_;refine Acu ?_;refine BV (Curve_spec hT eD) rfl rfl rdZ rfl rfl ?_;rintro _ χc ⟨uc,rfl,hOc,hex⟩;rw [if_pos e9Valid] at hOc
 have hcv:curveK e9 eC [] [] eD (eD.e-eD.r).toNat=[⟨5,3⟩,⟨6,4⟩]:=e9Curve hq hoks (fun j hj=>hex e9Valid j hj)
 rw [hcv] at hOc
 have hLc:LvAt χc uc [⟨5,3⟩,⟨6,4⟩]:=hOc.at
 obtain ⟨pu,ku,rfl⟩:=hOc.form
 refine AW (ρ:=χc) takeZ ?_;rw [if_pos e9Valid];refine Ab0 ?_;refine Aa ?_;refine AG ?_;refine BS ?_; rintro _ _ ⟨rfl,rfl⟩;refine AE ?_;refine Acu ?_;refine BL (Plan_spec hT eD5) rfl rfl Takes.nil rdZ rfl rfl ?_;rintro _ _ (⟨_,acc,vol,ss,c,a,σ4,σ5,σ6,rfl,rfl,hPO5,p3,k3,L5,p4,k4,rfl,hS5,hC5,hL5⟩|⟨hv,_⟩)
 rotate_left
 ·rw [e9Valid5] at hv; simp at hv
 obtain ⟨rfl,rfl,hcl⟩:=e9Plan5 hq hPO5
 have hLl:L5.length=3:=by rw [← hcl,← hL5,List.length_map]
 rw [hLl];refine Ab ?_;refine A4 ?_; rintro _ _ ⟨b,rfl,rfl⟩;refine AY ?_; rintro _ _ ⟨rfl,rfl⟩;refine Abr ?_;refine CQ ?_;refine Aao ?_;refine CQ ?_;refine AR ?_;refine Aao ?_;refine CQ ?_;refine Adw ?_;refine BY ?_;refine BY ?_;refine BY ?_;refine BY ?_;refine AZ ?_; rintro _ _ ⟨b,rfl,rfl⟩
 revert b; intro bx
 have hx:=equalX_spec σ1 (sng bx (.cells #[int 0,int 0,int 1,int 0,int 1,int 3,int 1,int 3,int 3,int 1,int 4,int 1] 62 (0,0))) (.slice p1 eL.length k1) (.slice (some ⟨bx,0,none⟩) 4 4) eL eL hS (slE_sng (l:=eL) encX_len) (by decide)
 rw [decide_eq_true rfl] at hx;refine BC hx rfl rfl rdZ rfl rfl ?_;rintro _ rfl;refine AR ?_;refine Aao ?_;refine BY ?_;refine BY ?_;refine AZ ?_; rintro _ _ ⟨b,rfl,rfl⟩
 revert b; intro by_
 have hy:=equalV_spec χc (sng by_ (.cells #[int 5,int 3,int 6,int 4] 72 (0,0))) _ (.slice (some ⟨by_,0,none⟩) 2 2) [⟨5,3⟩,⟨6,4⟩] [⟨5,3⟩,⟨6,4⟩] hLc (slE_sng (l:=[(⟨5,3⟩:Lv),⟨6,4⟩]) encV_len) (by decide)
 rw [decide_eq_true rfl] at hy;refine BC hy rfl rfl rdZ rfl rfl ?_;rintro _ rfl;refine Adw ?_;refine BN ?_;refine Adw ?_;refine CQ ?_;refine Adw ?_;refine AU ?_;refine CQ ?_;refine Acs ?_;exact A3 ⟨rfl,rfl⟩
theorem great54_spec (pq pc pb ph:Option Addr) (kq kc kb kh nq nc nb nh:Nat) (d:Dm):Ans Tryz.prog (fv 15) [.agg #[.slice pq nq kq,.slice pc nc kc,.slice pb nb kb,.slice ph nh kh],.agg #[int d.s,int d.d,int d.v,int d.r,int d.e]] [] (fun r=>∃ b,r=.bool b):=by
 refine spec_in (cap:=[]) Tryz.func15 rfl rfl Tryz.ntmps15 rfl envZ (fun N β=>?_)
 refine Aa ?_;refine BH (BO rfl) rfl rfl rfl ?_;rintro _ _ ⟨b1,rfl,rfl⟩;refine AW (ρ:=sng b1 _) takeZ ?_
 have c:=rdB b1 29 [.slice pq nq kq,.slice pc nc kc,.slice pb nb kb,.slice ph nh kh]
 have c0:=rdC c 0
 have c1:=rdC c 1
 have c2:=rdC c 2
 have c3:=rdC c 3
 refine BH (BO rfl) rfl rfl rfl ?_;rintro _ _ ⟨b2,rfl,rfl⟩;refine AW (ρ:=sng b2 _) takeZ ?_
 have cd:=rdB b2 31 [int d.s,int d.d,int d.v,int d.r,int d.e]
 have cd0:=rdC cd 0
 have cd1:=rdC cd 1
 have cd2:=rdC cd 2
 have cd3:=rdC cd 3
 have cd4:=rdC cd 4
 refine Aaa ?_;refine Acu ?_;refine BC (great53_spec pq pc pb ph kq kc kb kh nq nc nb nh d) rfl rfl rdZ rfl rfl ?_;rintro _ ⟨b,rfl⟩;refine Aaa ?_;exact AO (res1 rfl rfl) rsubZ selZ ⟨rfl,b,rfl⟩
theorem indexDm_spec (ρ:PH) (Rs:List PH) (v fn:Value) (l:List Dm) (Q:Dm→Prop) (hv:SlE encD 5 ρ v l) (hl:l.length≤9223372036854775807) (hfn:∀ (i:Nat) (x:Dm),l[i]?=some x→Ans Tryz.prog fn [.agg (encD x).toArray] Rs (fun r=>∃ b,r=.bool b∧(b=false→Q x))) :
  Ans Tryz.prog (fv 46) [v,fn] (ρ::Rs) (fun r=>(∃ i:Nat,r=int i)∨((∀ x∈l,Q x)∧r=int (-1))):=by
 obtain ⟨q,c,rfl,hr⟩:=hv.val encD_len
 refine spec_in (cap:=[]) Tryz.func46 rfl rfl Tryz.ntmps46 rfl envZ (fun N β=>?_)
 refine Ad6 ?_
 refine BA [0,1,7] (0:Nat) (fun k=>k≤l.length∧∀ (i:Nat) (x:Dm),i<k→l[i]?=some x→Q x) (fun k=>[(8,int k)]) (fun _=>[]) (fun k=>l.length-k) pickZ ⟨by omega,fun i x h=>by omega⟩ covZ selZ ?_
 rintro k ⟨hk,hI⟩
 by_cases hlt:k<l.length
 ·have hx:=List.getElem?_eq_getElem hlt
  obtain ⟨b1,o1,rfl,hrd⟩:=hr k _ hx
  have hrd2:RdN ρ b1 (o1+k*5) (encD l[k]):=hrd
  have hf:=hfn k _ hx
  refine Ac6 ?_;refine Abr ?_;refine Aao ?_;refine Abm ?_
  refine BC hf rfl rfl (fun τ hτ=>.inl (by simp [hτ])) rfl rfl ?_
  rintro _ ⟨b,rfl,hb⟩
  cases b with
  | true =>
   refine Aag ?_;refine Aca ?_;exact AO (res1 rfl rfl) rsubZ selZ ⟨rfl,.inl ⟨k,rfl⟩⟩
  | false =>
   refine Aak ?_;refine Abf ?_
   refine AT (k+1) ⟨by omega,fun i x hi hix=>?_⟩ (by omega) covZ selZ
   by_cases e:i=k
   ·subst e; rw [hx] at hix; injection hix with hix; rw [← hix]; exact hb rfl
   ·exact hI i x (by omega) hix
 ·refine AC ?_
  refine Afw ?_;refine Aai ?_
  refine AO (res1 rfl rfl) rsubZ selZ ⟨rfl,.inr ⟨fun x hx=>?_,rfl⟩⟩
  obtain ⟨i,hi,rfl⟩:=List.getElem_of_mem hx
  exact hI i _ (by omega) (List.getElem?_eq_getElem hi)
theorem contDm_spec (ρ:PH) (Rs:List PH) (v fn:Value) (l:List Dm) (Q:Dm→Prop) (hv:SlE encD 5 ρ v l) (hl:l.length≤9223372036854775807) (hfn:∀ (i:Nat) (x:Dm),l[i]?=some x→Ans Tryz.prog fn [.agg (encD x).toArray] Rs (fun r=>∃ b,r=.bool b∧(b=false→Q x))) :
  Ans Tryz.prog (fv 12) [v,fn] (ρ::Rs) (fun r=>∃ b,r=.bool b∧(b=false→∀ x∈l,Q x)):=by
 have hix:=indexDm_spec ρ Rs v fn l Q hv hl hfn
 obtain ⟨q,c,rfl,hr⟩:=hv.val encD_len
 refine spec_in (cap:=[]) Tryz.func12 rfl rfl Tryz.ntmps12 rfl envZ (fun N β=>?_)
 refine Aai ?_;refine Aay ?_
 refine BC hix rfl rfl (fun τ hτ=>.inl (List.mem_cons_of_mem _ hτ)) rfl rfl ?_
 rintro _ (⟨i,rfl⟩|⟨hall2,rfl⟩)
 ·refine CX ?_
  refine Aaa ?_
  exact AO (res1 rfl rfl) rsubZ selZ ⟨rfl,true,rfl,fun h=>by simp at h⟩
 ·refine BP ?_
  refine Aaa ?_
  exact AO (res1 rfl rfl) rsubZ selZ ⟨rfl,false,rfl,fun _=>hall2⟩
theorem equalAn_spec (ρ1 γ1 ρ2 γ2:PH) (v w:Value) (raw1 raw2:List (Value × Value × Value × Value)) (an:List An) (hv:SlE enc4 4 ρ1 v raw1) (h1:AnsL γ1 raw1 an) (hw:SlE enc4 4 ρ2 w raw2) (h2:AnsL γ2 raw2 an) (hl:an.length≤1000) (hsz:∀ a∈an,a.ss.length≤1000000∧a.c.length≤1000000) :
  Ans Tryz.prog (fv 19) [v,w,fv 20] [ρ1,γ1,ρ2,γ2] (fun r=>r=.bool true):=by
 obtain ⟨p1,c1,rfl,hr1⟩:=hv.val enc4_len
 obtain ⟨p2,c2,rfl,hr2⟩:=hw.val enc4_len
 have e1:=h1.1
 have e2:=h2.1
 refine spec_in (cap:=[]) Tryz.func19 rfl rfl Tryz.ntmps19 rfl envZ (fun N β=>?_)
 refine Ahh ?_;refine Acm ?_
 refine BA [1,2,15,16] (0:Nat) (fun k=>k≤an.length) (fun k=>[(17,int k)]) (fun _=>[]) (fun k=>an.length-k) pickZ (by omega) covZ selZ ?_
 rintro k hk
 by_cases hlt:k<an.length
 ·have hx:=List.getElem?_eq_getElem hlt
  have hx1:=List.getElem?_eq_getElem (show k<raw1.length by omega)
  have hx2:=List.getElem?_eq_getElem (show k<raw2.length by omega)
  have hA1:=h1.2 k _ _ hx1 hx
  have hA2:=h2.2 k _ _ hx2 hx
  have hs:=hsz _ (List.getElem_mem hlt)
  obtain ⟨b1,o1,rfl,hrd1⟩:=hr1 k _ hx1
  obtain ⟨b2,o2,rfl,hrd2⟩:=hr2 k _ hx2
  generalize raw1[k]=x1 at hx1 hA1 hrd1
  generalize raw2[k]=x2 at hx2 hA2 hrd2
  generalize an[k]=a at hx hA1 hA2 hs
  have hsp:=sameAnswer_spec γ1 γ1 γ1 γ2 γ2 γ2 _ _ a.acc a.vol a.ss a.c hA1 hA2 hs.1 hs.2
  obtain ⟨q1,k1,L1,q2,k2,f1,_⟩:=hA1
  obtain ⟨q3,k3,L2,q4,k4,f2,_⟩:=hA2
  obtain ⟨u1,u2,u3,u4⟩:=x1
  obtain ⟨w1,w2,w3,w4⟩:=x2
  dsimp only at f1 f2 hsp
  simp only [Value.agg.injEq,Array.mk.injEq,List.cons.injEq,and_true] at f1 f2
  obtain ⟨rfl,rfl,rfl,rfl⟩:=f1
  obtain ⟨rfl,rfl,rfl,rfl⟩:=f2
  have g1:RdN ρ1 b1 (o1+k*4) [.bool a.acc,int a.vol,.slice q1 a.ss.length k1,.slice q2 L1.length k2]:=hrd1
  have g2:RdN ρ2 b2 (o2+k*4) [.bool a.acc,int a.vol,.slice q3 a.ss.length k3,.slice q4 L2.length k4]:=hrd2
  refine Afb ?_;refine A4 ?_; rintro _ _ ⟨b,rfl,rfl⟩;refine AD ?_;refine AY ?_; rintro _ _ ⟨rfl,rfl⟩;refine AE ?_;refine Aay ?_;refine Abm ?_;refine A4 ?_; rintro _ _ ⟨b,rfl,rfl⟩;refine AY ?_; rintro _ _ ⟨rfl,rfl⟩;refine Aej ?_;refine AV ?_;refine AV ?_;refine BC hsp rfl rfl rdZ rfl rfl ?_;rintro _ rfl;refine Acw ?_;refine Abf ?_
  exact AT (k+1) (by omega) (by omega) covZ selZ
 ·refine AC ?_
  refine Afw ?_;refine Aai ?_;exact A3 ⟨rfl,rfl⟩
theorem ones_D (l:List Dm):∀ u∈l.flatMap encD,u.oneCell'=true:=by
 intro u hu
 obtain ⟨x,_,hx⟩:=List.mem_flatMap.1 hu
 simp only [encD,List.mem_cons,List.not_mem_nil,or_false] at hx
 rcases hx with rfl|rfl|rfl|rfl|rfl <;> rfl
theorem cloneDm_spec (ρ:PH) (v:Value) (l:List Dm) (hv:SlE encD 5 ρ v l) (hl:l.length≤1000000) :
  Makes Tryz.prog (fv 13) [v] [ρ] (fun r σ=>OwnS 31 5 r l.length (l.flatMap encD) σ):=by
 have hv2:=hv
 obtain ⟨q,c,rfl,hr⟩:=hv.val encD_len
 refine spec_in (cap:=[]) Tryz.func13 rfl rfl Tryz.ntmps13 rfl envZ (fun N β=>?_)
 cases q with
 | none =>
  have hnil:l=[]:=by
   cases l with
   | nil=>rfl
   | cons a l =>
    obtain ⟨b,o,e,_⟩:=hr 0 a rfl
    simp at e
  subst hnil;refine BZ ?_;refine Aff ?_
  focus ((refine' CW _ rfl rfl rfl _; rotate_left; (apply GD; exact rfl; exact rfl; exact rfl)))
  refine Aba ?_;exact AO (res1 rfl rfl) rsubZ selZ ⟨emp,OwnS.nil _ _,rfl⟩
 | some ad =>
  refine Aff ?_
  focus ((refine' CW _ rfl rfl rfl _; rotate_left; (apply GE; exact rfl; exact rfl; exact rfl)))
  refine Aak ?_;refine Aa ?_;refine AZ ?_; rintro _ _ ⟨b,rfl,rfl⟩;refine AB ?_
  refine BH (C4 (by_:=40) (s:=5) (σ:=ρ) (news:=l.flatMap encD) (m:=l.length) rfl rfl rfl rfl rfl rfl rfl (OwnS.empty (b:=b)) takeZ hv2 (fun b o h=>cellsR h memZ) (ones_D l) (by simp only [maxLen]; omega) (by omega)) rfl rfl rfl ?_
  rintro r1 _ ⟨σ,hO,rfl⟩;refine Aaa ?_;refine AO (res1 rfl rfl) rsubZ selZ ⟨σ,?_,rfl⟩
  simpa using hO
theorem greatFn_spec (pq pc pb ph:Option Addr) (kq kc kb kh nq nc nb nh:Nat) (b3:Nat) (d:Dm) :
  Ans Tryz.prog (.func (.func 14) #[] #[.pointer (some ⟨b3,0,none⟩)]) [.agg (encD d).toArray] [sng b3 (.cells #[.slice pq nq kq,.slice pc nc kc,.slice pb nb kb,.slice ph nh kh] 29 (0,0))] (fun r=>∃ b,r=.bool b∧(b=false→True)):=by
 have ct:=rdB b3 29 [.slice pq nq kq,.slice pc nc kc,.slice pb nb kb,.slice ph nh kh]
 refine spec_in (cap:=[.pointer (some ⟨b3,0,none⟩)]) Tryz.func14 rfl rfl Tryz.ntmps14 rfl envZ (fun N β=>?_)
 refine Aa ?_;refine BH (BO rfl) rfl rfl rfl ?_;rintro _ _ ⟨b2,rfl,rfl⟩;refine AW (ρ:=sng b2 _) takeZ ?_
 have cd:=rdB b2 31 [int d.s,int d.d,int d.v,int d.r,int d.e]
 have cd0:=rdC cd 0
 have cd1:=rdC cd 1
 have cd2:=rdC cd 2
 have cd3:=rdC cd 3
 have cd4:=rdC cd 4
 refine Aaa ?_;refine Acu ?_;refine BC (great54_spec pq pc pb ph kq kc kb kh nq nc nb nh d) rfl rfl rdZ rfl rfl ?_;rintro _ ⟨b,rfl⟩;refine Aaa ?_
 exact AO (res1 rfl rfl) rsubZ selZ ⟨rfl,b,rfl,fun _=>trivial⟩
theorem reserves_law {ρ τ σ υ:PH} (δ ω:PH) {pq pc pb ph:Option Addr} {kq kc kb kh:Nat} {qs:List Int} {cs:List Ct} {bs:List Bk} {hs:List Hd} (hT:TbAt ρ τ σ υ pq pc pb ph kq kc kb kh qs cs bs hs) (pl:Option Addr) (kl:Nat) (l:List Dm) (hv:SlE encD 5 δ (.slice pl l.length kl) l) (hll:l.length≤9223372036854775807) (ps:Option Addr) (ks:Nat) (s:List Sh) (hw:ShAt ω (.slice ps s.length ks) s) (hsl:s.length≤9223372036854775807) (hch:hs.length≤kh) :
  Ans Tryz.prog (fv 4) [.agg #[.slice pq qs.length kq,.slice pc cs.length kc,.slice pb bs.length kb,.slice ph hs.length kh],.slice pl l.length kl,.slice ps s.length ks] [ρ,τ,σ,υ,δ,ω] (fun r=>r=.bool true):=by
 refine spec_in (cap:=[]) Tryz.func4 rfl rfl Tryz.ntmps4 rfl envZ (fun N β=>?_)
 refine Aa ?_;refine BH (BO rfl) rfl rfl rfl ?_;rintro _ _ ⟨b3,rfl,rfl⟩;refine AW (ρ:=sng b3 _) takeZ ?_
 have ct:=rdB b3 29 [.slice pq qs.length kq,.slice pc cs.length kc,.slice pb bs.length kb,.slice ph hs.length kh]
 have ct0:=rdC ct 0
 have ct1:=rdC ct 1
 have ct2:=rdC ct 2
 have ct3:=rdC ct 3
 have ctp:=rdQ (xs:=[_,_]) ct
 by_cases h3:3<l.length
 ·refine AD ?_
  refine AE ?_;refine Abg ?_;refine CT ?_;refine Acq ?_;refine Abs ?_;refine Abx ?_;refine Acg ?_;refine BC awake54_spec rfl rfl rdZ rfl rfl ?_;rintro _ rfl;refine Aaa ?_;exact A3 ⟨rfl,rfl⟩
 by_cases h40:40<s.length
 ·refine AD ?_
  refine AE ?_;refine Abg ?_;refine B7 ?_;refine Aao ?_;refine AU ?_;refine CT ?_;refine AN ?_;refine Abs ?_;refine Abx ?_;refine Acg ?_;refine BC awake54_spec rfl rfl rdZ rfl rfl ?_;rintro _ rfl;refine Aaa ?_;exact A3 ⟨rfl,rfl⟩
 refine Aaa ?_;refine Abg ?_;refine B7 ?_;refine Aao ?_;refine AU ?_;refine B7 ?_;refine AN ?_;refine Aao ?_
 refine BV (cloneDm_spec δ _ l hv (by omega)) rfl rfl rdZ rfl rfl ?_
 rintro u0 χ0 hO0;refine BY ?_;refine AZ ?_; rintro _ _ ⟨b,rfl,rfl⟩
 refine BH (BI (by_:=40) (s:=5) (news:=[int 0,int 0,int 0,int 0,int 0]) rfl rfl rfl rfl rfl rfl rfl hO0 takeZ (cells_own memZ) rfl oneZ (by omega) (by simp only [maxLen]; omega) (by omega)) rfl rfl rfl ?_
 rintro u1 _ ⟨χ1,hO1,rfl⟩
 have hO2:OwnS 31 5 u1 (l ++ [(⟨0,0,0,0,0⟩:Dm)]).length ((l ++ [(⟨0,0,0,0,0⟩:Dm)]).flatMap encD) χ1:=by
  rw [List.length_append,List.flatMap_append];exact hO1
 refine CL ?_
 refine BC (contDm_spec χ1 [sng b3 (.cells #[.slice pq qs.length kq,.slice pc cs.length kc,.slice pb bs.length kb,.slice ph hs.length kh] 29 (0,0))] _ (.func (.func 14) #[] #[.pointer (some ⟨b3,0,none⟩)]) (l ++ [(⟨0,0,0,0,0⟩:Dm)]) (fun _=>True) hO2.at (by rw [List.length_append,List.length_singleton]; omega) (fun _ d _=>greatFn_spec pq pc pb ph kq kc kb kh qs.length cs.length bs.length hs.length b3 d)) rfl rfl rdZ rfl rfl ?_
 rintro _ ⟨fb,rfl,_⟩
 cases fb with
 | true =>
  refine AN ?_;refine Acg ?_;refine BC awake54_spec rfl rfl rdZ rfl rfl ?_;rintro _ rfl;refine Aaa ?_;exact A3 ⟨rfl,rfl⟩
 | false =>
 refine Abn ?_;refine Afm ?_
 refine BL (Matrix_spec δ hT _ l hv (by omega)) rfl rfl Takes.nil rdZ rfl rfl ?_
 rintro _ _ ⟨pu,ku,e,raw,an,σu,γ,rfl,rfl,hcu,hU,hA,hM⟩;refine AW (ρ:=σu) takeZ ?_;refine AW (ρ:=γ) takeZ ?_;refine Ab0 ?_;refine Afm ?_
 refine BL (Matrix54_spec δ hT _ l hv (by omega) hch) rfl rfl Takes.nil rdZ rfl rfl ?_
 rintro _ _ ⟨pu2,ku2,e2,raw2,an2,σ2,γ2,rfl,rfl,hcu2,hU2,hA2,hM2⟩;refine AW (ρ:=σ2) takeZ ?_;refine AW (ρ:=γ2) takeZ ?_
 obtain ⟨rfl,rfl⟩:=hM.uniq hM2
 have hszs:an.length≤1000∧∀ a∈an,a.ss.length≤1000000∧a.c.length≤1000000:=by
  rcases hM with ⟨_,b,h,hS⟩|⟨_,rfl,_⟩
  ·have hlen:=hS.len
   refine ⟨by omega,fun a ha=>?_⟩
   obtain ⟨i,hi⟩:=List.getElem?_of_mem ha
   have hil:=(List.getElem?_eq_some_iff.1 hi).1
   obtain ⟨as1,b1,h1,a1,b2,h2,_,v,p,_,g⟩:=hS.at (List.getElem?_eq_getElem (show i<l.length by omega))
   rw [hi] at g
   obtain rfl:=Option.some.inj g
   obtain ⟨p1,p2⟩:=plan_len (vok v) p
   exact ⟨by omega,p2⟩
  ·exact ⟨by simp,by simp⟩
 have hEq:=equalAn_spec σu γ σ2 γ2 _ _ raw raw2 an hU hA hU2 hA2 hszs.1 hszs.2
 clear hM hM2 hszs;refine Ab0 ?_;refine Afm ?_
 refine BL (Reserve_spec ω hT _ s hw (by omega)) rfl rfl Takes.nil rdZ rfl rfl ?_
 rintro _ _ (⟨g1,hg1,rfl,rfl,hR⟩|⟨bs',hs',p5,k5,p6,k6,σ5,σ6,rfl,rfl,hR,l5,l6,hB,hH⟩)
 ·refine AB ?_
  refine Aa8 ?_;refine A4 ?_; rintro _ _ ⟨b,rfl,rfl⟩;refine AY ?_; rintro _ _ ⟨rfl,rfl⟩;refine Aaa ?_;refine Afm ?_
  revert b; intro b11
  refine BL (Reserve54_spec ω hT _ s hw (by omega) hch) rfl rfl Takes.nil rdZ rfl rfl ?_
  rintro _ _ (⟨g2,hg2,rfl,rfl,hR2⟩|⟨bs2,hs2,p7,k7,p8,k8,σ7,σ8,rfl,rfl,hR2,_,_,_,_,_⟩)
  rotate_left
  ·exact absurd (hR.uniq hR2).1 hg1
  obtain ⟨rfl,_,_⟩:=hR.uniq hR2
  have hN:TbAt ρ τ σ υ none none none none 0 0 0 0 [] [] [] []:=⟨⟨rfl,.inl ⟨rfl,none,0,rfl⟩⟩,⟨rfl,.inl ⟨rfl,none,0,rfl⟩⟩,by simp,by simp,by simp,⟨rfl,.inl ⟨rfl,none,0,rfl⟩⟩,by simp,⟨rfl,.inl ⟨rfl,none,0,rfl⟩⟩,by simp⟩
  have hSm:=sameT_spec hN hN
  refine Ab ?_;refine A4 ?_; rintro _ _ ⟨b,rfl,rfl⟩;refine AY ?_; rintro _ _ ⟨rfl,rfl⟩;refine Ae4 ?_;refine BC hEq rfl rfl rdZ rfl rfl ?_;rintro _ rfl;refine Abp ?_;refine CQ ?_;refine AR ?_;refine AB ?_;refine AV ?_;refine AV ?_;refine BC hSm rfl rfl rdZ rfl rfl ?_;rintro _ rfl;refine AR ?_;refine Abp ?_;refine CQ ?_;refine AR ?_;refine AB ?_;refine BC awake54_spec rfl rfl rdZ rfl rfl ?_;rintro _ rfl;refine Acs ?_;exact A3 ⟨rfl,rfl⟩
 ·refine AW (ρ:=σ5) takeZ ?_
  refine AW (ρ:=σ6) takeZ ?_;refine Ab ?_;refine A4 ?_; rintro _ _ ⟨b,rfl,rfl⟩;refine AY ?_; rintro _ _ ⟨rfl,rfl⟩;refine Aaa ?_;refine Afm ?_
  revert b; intro b11
  refine BL (Reserve54_spec ω hT _ s hw (by omega) hch) rfl rfl Takes.nil rdZ rfl rfl ?_
  rintro _ _ (⟨g2,hg2,rfl,rfl,hR2⟩|⟨bs2,hs2,p7,k7,p8,k8,σ7,σ8,rfl,rfl,hR2,l7,l8,_,hB2,hH2⟩)
  ·exact absurd (hR2.uniq hR).1 hg2
  obtain ⟨_,rfl,rfl⟩:=hR.uniq hR2
  refine D3 (P:=fun z=>SlE encB 4 z (.slice p7 bs'.length k7) bs') (σ:=σ) (χ:=σ7) memZ takeZ hB2 (fun σ9 hB9=>?_)
  refine D3 (P:=fun z=>HdAt z (.slice p8 hs'.length k8) hs') (σ:=υ) (χ:=σ8) memZ takeZ hH2 (fun υ9 hH9=>?_)
  have hTx:TbAt ρ τ σ5 σ6 pq pc p5 p6 kq kc k5 k6 qs cs bs' hs':=⟨hT.hq,hT.hc,hT.hcap,hT.lq,hT.lc,hB,by omega,hH,by omega⟩
  have hTy:TbAt ρ τ σ9 υ9 pq pc p7 p8 kq kc k7 k8 qs cs bs' hs':=⟨hT.hq,hT.hc,hT.hcap,hT.lq,hT.lc,hB9,by omega,hH9,by omega⟩
  refine Ab ?_;refine A4 ?_; rintro _ _ ⟨b,rfl,rfl⟩;refine AY ?_; rintro _ _ ⟨rfl,rfl⟩;refine Ae4 ?_;refine BC hEq rfl rfl rdZ rfl rfl ?_;rintro _ rfl;refine Abp ?_;refine CQ ?_;refine AR ?_;refine AB ?_;refine AV ?_;refine AV ?_;refine BC (sameT_spec hTx hTy) rfl rfl rdZ rfl rfl ?_;rintro _ rfl;refine AR ?_;refine Abp ?_;refine CQ ?_;refine AR ?_;refine AB ?_;refine BC awake54_spec rfl rfl rdZ rfl rfl ?_;rintro _ rfl;refine Acs ?_;exact A3 ⟨rfl,rfl⟩
end Go.Proofs.YtjehnjhkcmobcaaGreat
namespace Go.Proofs.YtjehnjhkcmobcaaGreat
open Go.Eng Go.Step
set_option maxRecDepth 100000
set_option maxHeartbeats 64000000
open Go.ChangeShapes Go.WideShapes Go.ChangeAt Go.RowKit
theorem dm_of {W:World} {x:List Value} (h:RdT Tryz.prog W 31 x):∃ a:Dm,x=encD a∧True:=by
 obtain ⟨h1,_⟩:=h.struct Tryz.underlying31
 have hc:Tryz.prog.cellsOf 31=5:=by kernel_rfl
 rw [hc] at h1
 match x,h1 with
 | [c0,c1,c2,c3,c4],_ =>
  have k:Tryz.prog.cellsOf 3=1:=by kernel_rfl
  obtain ⟨x0,e0,_⟩:=(h.fld1 Tryz.underlying31 0 rfl rfl rfl k rfl).i64 Tryz.underlying3
  obtain ⟨x1,e1,_⟩:=(h.fld1 Tryz.underlying31 1 rfl rfl rfl k rfl).i64 Tryz.underlying3
  obtain ⟨x2,e2,_⟩:=(h.fld1 Tryz.underlying31 2 rfl rfl rfl k rfl).i64 Tryz.underlying3
  obtain ⟨x3,e3,_⟩:=(h.fld1 Tryz.underlying31 3 rfl rfl rfl k rfl).i64 Tryz.underlying3
  obtain ⟨x4,e4,_⟩:=(h.fld1 Tryz.underlying31 4 rfl rfl rfl k rfl).i64 Tryz.underlying3
  simp at e0 e1 e2 e3 e4
  subst e0 e1 e2 e3 e4;exact ⟨⟨x0,x1,x2,x3,x4⟩,rfl,trivial⟩
theorem dms_of {W:World} {r:Reach} {base:Nat} {v0:Value} (hv:Value.okWide Tryz.prog W r base 49 v0) (h:RdT Tryz.prog W 49 v0.cells.toList):∃ l:List Dm,SlE encD 5 (heapPH W) v0 l∧CapOK v0∧l.length≤9223372036854775807:=by
 obtain ⟨a,len,cap,rfl⟩:=okWide_slice Tryz.underlying49 hv
 have h':RdT Tryz.prog W 49 [Value.slice a len cap]:=h
 obtain ⟨v,e,l,h1,h2,h3⟩:=h'.sliceE Tryz.underlying49 (s:=5) (by kernel_rfl) (by omega) (fun x hx=>dm_of hx)
 simp only [List.cons.injEq,and_true] at e;subst e
 exact ⟨l,h1,h'.capOK Tryz.underlying49,by simp only [maxLen] at h3; omega⟩
theorem hcap_of {W:World} {a b c:Value} {ph:Option Addr} {n kh:Nat} (h:RdT Tryz.prog W 29 [a,b,c,.slice ph n kh]):n≤kh:=by
 have k3:Tryz.prog.cellsOf 27=1:=by kernel_rfl
 exact ((h.fld1 Tryz.underlying29 2 rfl rfl rfl k3 rfl).capOK Tryz.underlying27).le
set_option maxRecDepth 100000 in
theorem plannerReserves_lifted (os:Os) (started:os.Started) (H:Type) (enc:TypeId × Value→H) :
  ReturnsInHanded {} Tryz.checked os 4 .any (Rows.plannerReservesSpec.pre6 enc Tryz.prog Tryz.f4 Rows.plannerReservesRow.domain false) (Rows.plannerReservesSpec.post enc Tryz.prog Tryz.f4 false true false false):=by
 refine returnsInHanded_of_change (C:=Tryz.checked) Tryz.own started (by kernel_rfl) Tryz.func4
  (ChangeSpec.witness6 (enc:=enc) (C:=Tryz.checked) false ⟨#[],#[.agg #[.slice none 0 0,.slice none 0 0,.slice none 0 0,.slice none 0 0],.slice none 0 0,.slice none 0 0],[]⟩ 8 (by kernel_rfl) (by kernel_rfl) (by kernel_rfl) (by kernel_rfl)) ?_
 intro W base args ds gs before hval0 hW hcnd _
 have hval:∀ (j:Nat) t v,Tryz.f4.params[j]?=some t→args[j]?=some v→Value.okWide Tryz.prog W .any base t v:=hval0
 have hW':=hW
 obtain ⟨p,q,hA0,hV,rfl,hfz,hnd⟩:=hW
 have hA:DataW.TrodAll enc Tryz.prog W 0 (fun _=>true) true Tryz.f4.params.toList args.toList ds p:=hA0
 rw [Tryz.params4] at hA hval
 obtain ⟨v0,vs0,d0,ds0,p0,q0,hargs,rfl,rfl,h0,r0⟩:=trodAll_cons hA
 obtain ⟨v1,vs1,d1,ds1,p1,q1,rfl,rfl,rfl,h1,r1⟩:=trodAll_cons r0
 obtain ⟨v2,vs2,d2,ds2,p2,q2,rfl,rfl,rfl,h2,r2⟩:=trodAll_cons r1
 obtain ⟨rfl,rfl,rfl⟩:=trodAll_nil r2
 obtain rfl:args = #[v0,v1,v2]:=by cases args; simp_all
 obtain ⟨rfl,rfl⟩:=trodVars_none hV
 have lt0:∀ x∈p0,x.block<W.heap.size:=by obtain ⟨m,hm⟩:=h0; exact DataW.trod_lt m _ _ _ hm
 have lt1:∀ x∈p1,x.block<W.heap.size:=by obtain ⟨m,hm⟩:=h1; exact DataW.trod_lt m _ _ _ hm
 have lt2:∀ x∈p2,x.block<W.heap.size:=by obtain ⟨m,hm⟩:=h2; exact DataW.trod_lt m _ _ _ hm
 have hlaw:Ans Tryz.prog (fv 4) [v0,v1,v2] [heapPH W] (fun v=>v=.bool true):=by
  obtain ⟨pq,pc,pb,ph,kq,kc,kb,kh,qs,cs,bs,hs,rfl,hT⟩:=tables_of (hval 0 _ v0 rfl rfl) (RdT.of h0)
  obtain ⟨l,hl,cl,ll⟩:=dms_of (hval 1 _ v1 rfl rfl) (RdT.of h1)
  obtain ⟨pl,kl,rfl,_⟩:=hl.val encD_len
  obtain ⟨s,hs2,_,ls⟩:=ships_of (hval 2 _ v2 rfl rfl) (RdT.of h2)
  obtain ⟨ps,ks,rfl,_⟩:=hs2.val encX_len
  exact (reserves_law _ _ hT pl kl l hl ll ps ks s hs2 ls (hcap_of (RdT.of h0))).rsub (fun _ h=>by simpa using h)
 refine (law_calls Tryz.func4 rfl rfl hlaw).mono fun e W' ⟨he,bel⟩=>?_
 subst he
 exact ⟨_,rfl,_,_,_,[],_,[],hW',trodAll_mk1 (shut_bool Tryz.underlying4 _),(trodAll_cons_mk (Below.trod Tryz.laidOut (by kernel_rfl) (of_decide_eq_true (by kernel_rfl)) h0 bel lt0) (trodAll_cons_mk (Below.trod Tryz.laidOut (by kernel_rfl) (of_decide_eq_true (by kernel_rfl)) h1 bel lt1) (trodAll_cons_mk (Below.trod Tryz.laidOut (by kernel_rfl) (of_decide_eq_true (by kernel_rfl)) h2 bel lt2) trodAll_mk0))),rfl,bel.frame _,fun h=>by cases h⟩
theorem plannerReserves_holds:Rows.PlannerReservesSaid:=
 OpenClaim.holds_of_wide 4 Tryz.f4 rfl rfl rfl rfl rfl rfl rfl ⟨rfl,rfl,rfl,rfl,rfl⟩ rfl rfl rfl rfl rfl (by kernel_rfl) Tryz.func4 (by kernel_rfl)
  (of_decide_eq_true (by kernel_rfl)) (by unfold Func.isWrapper; first|(rw [if_pos (by decide +kernel)]; kernel_rfl)|(rw [if_neg (by decide +kernel)]; exact ⟨rfl,rfl⟩))
  (fun os started H enc _=>plannerReserves_lifted os started H enc)
end Go.Proofs.YtjehnjhkcmobcaaGreat
