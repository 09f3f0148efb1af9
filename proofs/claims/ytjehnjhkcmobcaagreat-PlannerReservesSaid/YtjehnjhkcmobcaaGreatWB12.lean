/- Texts of this proof, one after the other; no conditions. -/
import Derived.Shelf.SlSortCmp.NoneTotal
import Derived.Test.YtjehnjhkcmobcaaGreatWB11
import Derived.Test.YtjehnjhkcmobcaaGreatWB3
import Derived.Test.YtjehnjhkcmobcaaGreatWB6
import Derived.Test.YtjehnjhkcmobcaaGreatWB8
import Derived.Test.YtjehnjhkcmobcaaGreatWB4
import Derived.Test.YtjehnjhkcmobcaaGreatWB7
import Derived.Test.YtjehnjhkcmobcaaGreatWB10
import Derived.Test.YtjehnjhkcmobcaaGreatWB2
import Derived.Test.YtjehnjhkcmobcaaGreatWB5
import Derived.Test.YtjehnjhkcmobcaaGreatWB9
import Derived.Test.YtjehnjhkcmobcaaGreatWB1
set_option linter.all false
/- The document's arcs. -/
namespace Go.Proofs.YtjehnjhkcmobcaaGreat
open Go.Eng Go.Step
set_option maxRecDepth 100000
set_option maxHeartbeats 64000000
theorem refCheck53_spec {ρ τ σ υ:PH} {pq pc pb ph:Option Addr} {kq kc kb kh:Nat} {qs:List Int} {cs:List Ct} {bs:List Bk} {hs:List Hd} (hT:TbAt ρ τ σ υ pq pc pb ph kq kc kb kh qs cs bs hs) (d:Dm):Ans Tryz.prog (fv 23) [.agg #[.slice pq qs.length kq,.slice pc cs.length kc,.slice pb bs.length kb,.slice ph hs.length kh],.agg #[int d.s,int d.d,int d.v,int d.r,int d.e]] [ρ,τ,σ,υ] (fun r=>r=.bool (validT qs cs bs hs d)):=by
 have hct:=refChkTab_spec hT
 have hd:=demand53_spec pq pc kq kc qs.length cs.length d
 refine spec_in (cap:=[]) Tryz.func23 rfl rfl Tryz.ntmps23 rfl envZ (fun N β=>?_)
 refine Aa ?_;refine BH (BO rfl) rfl rfl rfl ?_;rintro _ _ ⟨b1,rfl,rfl⟩;refine AW (ρ:=sng b1 _) takeZ ?_
 have ct:=rdB b1 29 [.slice pq qs.length kq,.slice pc cs.length kc,.slice pb bs.length kb,.slice ph hs.length kh]
 have ct0:=rdC ct 0
 have ct1:=rdC ct 1
 have ct2:=rdC ct 2
 have ct3:=rdC ct 3
 have ctp:=rdQ (xs:=[_,_]) ct
 refine BH (BO rfl) rfl rfl rfl ?_;rintro _ _ ⟨b2,rfl,rfl⟩;refine AW (ρ:=sng b2 _) takeZ ?_
 have cd:=rdB b2 31 [int d.s,int d.d,int d.v,int d.r,int d.e]
 have cd0:=rdC cd 0
 have cd1:=rdC cd 1
 have cd2:=rdC cd 2
 have cd3:=rdC cd 3
 have cd4:=rdC cd 4
 refine Aaa ?_;refine Abt ?_;refine BC hct rfl rfl rdZ rfl rfl ?_;rintro _ rfl
 by_cases hz:chkT qs cs bs hs=0
 ·rw [hz]
  refine CQ ?_;refine AB ?_;refine Agh ?_;refine AV ?_;refine BC hd rfl rfl rdZ rfl rfl ?_;rintro _ rfl
  have hV:validT qs cs bs hs d=okDmB qs.length d:=by unfold validT okDmB; simp [hz]
  rw [hV]
  cases okDmB qs.length d with
  | true =>
   refine Acs ?_;exact A3 ⟨rfl,rfl⟩
  | false =>
   refine Acs ?_;exact A3 ⟨rfl,rfl⟩
 ·have hV:validT qs cs bs hs d=false:=decide_eq_false (fun h=>hz h.1)
  rw [hV];refine CE ?_;refine Abs ?_;refine Adx ?_;exact A3 ⟨rfl,rfl⟩
theorem refVtx_spec (d:Dm) (n t:Int) (hr:0≤d.r∧d.r≤d.e∧d.e≤1099511627776∧d.e-d.r≤100) (hn:0≤n∧n≤1000) (ht:0≤t∧t≤2199023255552):Ans Tryz.prog (fv 197) [.agg #[int d.s,int d.d,int d.v,int d.r,int d.e],int n,int t] [] (fun r=>r=int (vtx d n t)):=by
 have hv:vtx d n t=n*(d.e-d.r+1)+t-d.r:=by unfold vtx wd; omega
 have hm:0≤n*(d.e-d.r+1)∧n*(d.e-d.r+1)≤1000*101:=⟨Int.mul_nonneg hn.1 (by omega),Int.mul_le_mul hn.2 (by omega) (by omega) (by omega)⟩
 rw [hv]
 refine spec_in (cap:=[]) Tryz.func197 rfl rfl Tryz.ntmps197 rfl envZ (fun N β=>?_)
 refine Aa ?_;refine BH (BO rfl) rfl rfl rfl ?_;rintro _ _ ⟨b2,rfl,rfl⟩;refine AW (ρ:=sng b2 _) takeZ ?_
 have cd:=rdB b2 31 [int d.s,int d.d,int d.v,int d.r,int d.e]
 have cd0:=rdC cd 0
 have cd1:=rdC cd 1
 have cd2:=rdC cd 2
 have cd3:=rdC cd 3
 have cd4:=rdC cd 4
 refine Abr ?_;refine Afc ?_;refine CP ?_;refine CB ?_;refine FI ?_;refine AB ?_;refine CB ?_;refine Aad ?_;refine CP ?_;refine Aaa ?_;exact A3 ⟨rfl,rfl⟩
theorem refGaps_spec {ρ τ σ υ:PH} {pq pc pb ph:Option Addr} {kq kc kb kh:Nat} {qs:List Int} {cs:List Ct} {bs:List Bk} {hs:List Hd} (hT:TbAt ρ τ σ υ pq pc pb ph kq kc kb kh qs cs bs hs) (i:Nat) (x:Ct) (hx:cs[i]?=some x) (hbl:bs.length≤512) :
  Makes Tryz.prog (fv 203) [.agg #[.slice pq qs.length kq,.slice pc cs.length kc],.slice pb bs.length kb,int (i:Int)] [ρ,τ,σ] (fun r χ=>OwnS 152 2 r (freeC cs bs i).length ((freeC cs bs i).flatMap encS) χ):=by
 have hbusy:=refBusy_spec σ _ bs i hT.hb (by omega)
 have hbll:=busyL_len bs i
 have hfc:freeC cs bs i=gapsP x.e x.s (busyL bs i):=by unfold freeC; rw [hx]
 have hgl:=gapsP_len x.e (busyL bs i) x.s
 rw [hfc]
 have hi:=(List.getElem?_eq_some_iff.1 hx).1
 obtain ⟨bq,oq,e4,hrd⟩:=ctRow hT.rc hx
 have q2:rdc τ bq (oq+i*7+2)=some (int x.s):=hrd.get (j:=2) rfl
 have q3:rdc τ bq (oq+i*7+3)=some (int x.e):=hrd.get (j:=3) rfl
 refine spec_in (cap:=[]) Tryz.func203 rfl rfl Tryz.ntmps203 rfl envZ (fun N β=>?_)
 refine Aa ?_;refine BH (BO rfl) rfl rfl rfl ?_;rintro _ _ ⟨b3,rfl,rfl⟩;refine AW (ρ:=sng b3 _) takeZ ?_
 have c:=rdB b3 25 [.slice pq qs.length kq,.slice pc cs.length kc]
 have c0:=rdC c 0
 have c1:=rdC c 1
 refine BZ ?_;subst e4;refine Aaa ?_;refine Aai ?_;refine Ach ?_;refine Acf ?_;refine Ae4 ?_;refine BV hbusy rfl rfl rdZ rfl rfl ?_;rintro w χb hOb
 have hSb:=hOb.at
 obtain ⟨pw,kw,rfl⟩:=hOb.form
 obtain ⟨_,_,ew,hrw⟩:=SlE.val (enc:=encS) encS_len (show SlE encS 2 χb _ (busyL bs i) from hSb)
 simp only [Value.slice.injEq] at ew
 obtain ⟨rfl,_,rfl⟩:=ew
 refine AW (ρ:=χb) takeZ ?_
 generalize busyL bs i=L at hbll hOb hSb hrw hgl
 refine Adt ?_
 refine BA [2,3,9] (X:=Nat × Int × List (Int × Int) × Value × PH) (0,x.s,[],.slice none 0 0,emp) (fun z=>z.1≤L.length∧gapsP x.e x.s L=z.2.2.1 ++ gapsP x.e z.2.1 (L.drop z.1)∧OwnS 152 2 z.2.2.2.1 z.2.2.1.length (z.2.2.1.flatMap encS) z.2.2.2.2) (fun z=>[(10,int z.1),(8,int z.2.1),(7,z.2.2.2.1)]) (fun z=>[z.2.2.2.2]) (fun z=>L.length-z.1) pickZ ⟨by dsimp only; omega,rfl,OwnS.nil _ _⟩ covZ selZ ?_
 rintro ⟨k,a,G,u,χ⟩ ⟨hk,hG,hO⟩
 dsimp only at hk hG hO ⊢
 have hGl:G.length≤L.length+1:=by
  have:=congrArg List.length hG
  rw [List.length_append] at this;omega
 by_cases hlt:k<L.length
 ·have hy:=List.getElem?_eq_getElem hlt
  have hga:=gapsP_at (e:=x.e) hlt a
  obtain ⟨b6,o6,rfl,hRd6,y0,y1⟩:=spRow hrw hy
  generalize L[k]=y at hy hga hRd6 y0 y1
  by_cases hc:a<y.1
  ·rw [if_pos hc] at hga
   refine Abo ?_;refine Agc ?_;refine Afp ?_;refine BD ?_;refine Aag ?_;refine Ac3 ?_;refine Aao ?_;refine Afp ?_;refine BY ?_;refine AZ ?_; rintro _ _ ⟨b,rfl,rfl⟩
   refine BH (BI (by_:=16) (s:=2) (news:=[int a,int y.1]) rfl rfl rfl rfl rfl rfl rfl hO takeZ (cells_own memZ) rfl oneZ (by omega) (by simp only [maxLen]; omega) (by omega)) rfl rfl rfl ?_
   rintro u1 _ ⟨χ1,hO1,rfl⟩;refine Ahg ?_;refine Acf ?_;refine Adb ?_
   refine AT (k+1,y.2,G ++ [(a,y.1)],u1,χ1) ⟨by dsimp only; omega,?_,?_⟩ (by dsimp only; omega) covZ selZ
   ·dsimp only
    rw [hG,hga,List.append_assoc]
   ·dsimp only
    rw [List.length_append,List.flatMap_append];exact hO1
  ·rw [if_neg hc,List.nil_append] at hga
   refine Abo ?_;refine Agc ?_;refine Afp ?_;refine Aeb ?_;refine Ac3 ?_;refine Acf ?_;refine Adb ?_
   refine AT (k+1,y.2,G,u,χ) ⟨by dsimp only; omega,?_,hO⟩ (by dsimp only; omega) covZ selZ
   dsimp only
   rw [hG,hga]
 ·have hke:k=L.length:=by omega
  subst hke
  have hfin:gapsP x.e x.s L=G ++ (if a<x.e then [(a,x.e)] else []):=by
   rw [hG,List.drop_length]
   rfl
  rw [hfin]
  by_cases hc:a<x.e
  ·rw [if_pos hc]
   refine Aci ?_;refine Ac9 ?_;refine AB ?_;refine Acf ?_;refine BD ?_;refine Aag ?_;refine Ade ?_;refine Aaj ?_;refine AB ?_;refine Acf ?_;refine BY ?_;refine AZ ?_; rintro _ _ ⟨b,rfl,rfl⟩
   refine BH (BI (by_:=16) (s:=2) (news:=[int a,int x.e]) rfl rfl rfl rfl rfl rfl rfl hO takeZ (cells_own memZ) rfl oneZ (by omega) (by simp only [maxLen]; omega) (by omega)) rfl rfl rfl ?_
   rintro u1 _ ⟨χ1,hO1,rfl⟩;refine Abr ?_;refine Aaa ?_;refine AO (res1 rfl rfl) rsubZ selZ ⟨χ1,?_,rfl⟩;rw [List.length_append,List.flatMap_append];exact hO1
  ·rw [if_neg hc,List.append_nil]
   refine Aci ?_;refine Ac9 ?_;refine AB ?_;refine Acf ?_;refine Aeb ?_;refine Aca ?_;exact AO (res1 rfl rfl) rsubZ selZ ⟨χ,hO,rfl⟩
def encRA (x:EA):List Value:=[int x.a.f,int x.a.t,int x.a.c,int x.c,int x.t]
theorem encRA_len (x:EA):(encRA x).length=5:=rfl
theorem refArcs_spec {ρ τ σ υ:PH} {pq pc pb ph:Option Addr} {kq kc kb kh:Nat} {qs:List Int} {cs:List Ct} {bs:List Bk} {hs:List Hd} (hT:TbAt ρ τ σ υ pq pc pb ph kq kc kb kh qs cs bs hs) (d:Dm) (h:VOk qs cs bs hs d) :
  Makes Tryz.prog (fv 167) [.agg #[.slice pq qs.length kq,.slice pc cs.length kc,.slice pb bs.length kb,.slice ph hs.length kh],.agg #[int d.s,int d.d,int d.v,int d.r,int d.e]] [ρ,τ,σ,υ] (fun r χ=>OwnS 260 5 r (arcsE qs cs bs hs d).length ((arcsE qs cs bs hs d).flatMap encRA) χ):=by
 have hdm:=h.dm
 unfold okDm at hdm
 have hnq:=h.nq
 have hnc:=h.nc
 refine spec_in (cap:=[]) Tryz.func167 rfl rfl Tryz.ntmps167 rfl envZ (fun N β=>?_)
 refine Aa ?_;refine BH (BO rfl) rfl rfl rfl ?_;rintro _ _ ⟨b1,rfl,rfl⟩;refine AW (ρ:=sng b1 _) takeZ ?_
 have ct:=rdB b1 29 [.slice pq qs.length kq,.slice pc cs.length kc,.slice pb bs.length kb,.slice ph hs.length kh]
 have ct0:=rdC ct 0
 have ct1:=rdC ct 1
 have ct2:=rdC ct 2
 have ct3:=rdC ct 3
 have ctp:=rdQ (xs:=[_,_]) ct
 refine BH (BO rfl) rfl rfl rfl ?_;rintro _ _ ⟨b2,rfl,rfl⟩;refine AW (ρ:=sng b2 _) takeZ ?_
 have cd:=rdB b2 31 [int d.s,int d.d,int d.v,int d.r,int d.e]
 have cd0:=rdC cd 0
 have cd1:=rdC cd 1
 have cd2:=rdC cd 2
 have cd3:=rdC cd 3
 have cd4:=rdC cd 4
 refine Afa ?_;refine AZ ?_; rintro _ _ ⟨b,rfl,rfl⟩;refine Adt ?_
 revert b; intro bo
 refine BA [2,3] (X:=Nat × Value × PH) (0,.slice (some ⟨bo,0,none⟩) 0 0,sng bo (.cells #[] 260 (0,0))) (fun z=>z.1≤qs.length∧OwnS 260 5 z.2.1 (waitA qs hs d z.1).length ((waitA qs hs d z.1).flatMap encRA) z.2.2) (fun z=>[(6,int z.1),(5,z.2.1)]) (fun z=>[z.2.2]) (fun z=>qs.length-z.1) pickZ ⟨by dsimp only; omega,OwnS.empty⟩ covZ selZ ?_
 rintro ⟨n,u,σo⟩ ⟨hn,hO⟩
 dsimp only at hn hO ⊢
 by_cases hlt:n<qs.length
 rotate_left
 ·have hne:n=qs.length:=by omega
  subst hne
  have hWl:=h.waitA_le (Nat.le_refl _)
  have hWE:arcsE qs cs bs hs d=waitA qs hs d qs.length ++ conA cs bs d cs.length:=rfl
  rw [hWE]
  generalize waitA qs hs d qs.length=W at hO hWl
  refine Agf ?_;refine Abv ?_;refine Acv ?_
  refine BA [2,3] (X:=Nat × Value × PH) (0,u,σo) (fun z=>z.1≤cs.length∧OwnS 260 5 z.2.1 (W ++ conA cs bs d z.1).length ((W ++ conA cs bs d z.1).flatMap encRA) z.2.2) (fun z=>[(9,int z.1),(5,z.2.1)]) (fun z=>[z.2.2]) (fun z=>cs.length-z.1) pickZ ⟨by dsimp only; omega,by dsimp only; rw [show conA cs bs d 0=[] from rfl,List.append_nil]; exact hO⟩ covZ selZ ?_
  rintro ⟨i,u,σo⟩ ⟨hi,hO⟩
  dsimp only at hi hO ⊢
  by_cases hil:i<cs.length
  rotate_left
  ·have hie:i=cs.length:=by omega
   subst hie;refine Agf ?_;refine Abv ?_;refine Aca ?_;exact AO (res1 rfl rfl) rsubZ selZ ⟨σo,hO,rfl⟩
  have hx:=List.getElem?_eq_getElem hil
  have hCl:=h.conA_le (m:=i) (by omega)
  have hend:=fun t=>conT_end h (t:=t) hx
  obtain ⟨hfc,hfl⟩:=h.free_chk hx
  have hmem:=fun t=>(h.free hx).2.2 t
  have k:=h.ct _ (List.mem_of_getElem? hx)
  have hgp:=refGaps_spec hT i _ hx h.nb
  obtain ⟨bq,oq,e4,hrd⟩:=ctRow hT.rc hx
  have hnx:conA cs bs d (i+1)=conA cs bs d i ++ conN cs bs d i:=rfl
  generalize cs[i]=c at hx hend k hrd hmem
  generalize conN cs bs d i=CN at hend hnx
  generalize conA cs bs d i=CA at hO hCl hnx
  subst e4;refine Agf ?_;refine Aa9 ?_;refine Aep ?_;refine AB ?_;refine Abm ?_;refine A4 ?_; rintro _ _ ⟨b,rfl,rfl⟩;refine AY ?_; rintro _ _ ⟨rfl,rfl⟩;refine AE ?_;refine Aa ?_;refine Agh ?_;refine Aad ?_;refine AB ?_
  revert b; intro b10
  refine BV hgp rfl rfl rdZ rfl rfl ?_;rintro uf χf hOf
  have hSf:SpAt χf uf (freeC cs bs i):=hOf.at
  obtain ⟨pf,kf,rfl⟩:=hOf.form
  generalize freeC cs bs i=G at hfc hfl hend hOf hSf hmem
  refine Aef ?_;refine FJ ?_;refine Aaa ?_;refine AM ?_
  refine BA [2,3,9,10,11] (X:=Int × Value × PH) (max c.s d.r,u,σo) (fun z=>max c.s d.r≤z.1∧(∀ v,max c.s d.r≤v→v<z.1→v<c.e∧v+1+c.g≤d.e)∧OwnS 260 5 z.2.1 (W ++ (CA ++ conT d c i G z.1)).length ((W ++ (CA ++ conT d c i G z.1)).flatMap encRA) z.2.2) (fun z=>[(12,int z.1),(5,z.2.1)]) (fun z=>[z.2.2,sng b10 (.cells #[int c.f,int c.t,int c.s,int c.e,int c.r,int c.g,int c.l] 114 (0,0)),χf]) (fun z=>(c.e-z.1).toNat) pickZ ⟨by dsimp only; omega,fun v h1 h2=>by dsimp only at h2; omega,by dsimp only; rw [conT_nil,List.append_nil]; exact hO⟩ covZ selZ ?_
  rintro ⟨t,u,σo⟩ ⟨ht1,hin,hO⟩
  dsimp only at ht1 hin hO ⊢
  have htl:(t-max c.s d.r).toNat≤100:=by
   by_cases hq:max c.s d.r<t
   ·have:=hin (t-1) (by omega) (by omega)
    omega
   ·omega
  have hcl:=conT_len d c i G t
  have htot:(W ++ (CA ++ conT d c i G t)).length≤8100:=by rw [List.length_append,List.length_append]; omega
  by_cases c1:t<c.e
  rotate_left
  ·have he:=hend t (fun h=>c1 h.1) hin
   refine Ac9 ?_;refine A0 ?_;refine Adh ?_;refine Aab ?_;refine AN ?_;refine Aa7 ?_;refine Aa2 ?_
   refine AT (i+1,u,σo) ⟨by dsimp only; omega,?_⟩ (by dsimp only; omega) covZ selZ
   dsimp only
   rw [hnx,← he];exact hO
  by_cases c2:t+1+c.g≤d.e
  rotate_left
  ·have he:=hend t (fun h=>c2 h.2) hin
   refine Ac9 ?_;refine BD ?_;refine Aao ?_;refine CB ?_;refine Agm ?_;refine Aad ?_;refine DB ?_;refine AR ?_;refine Aa7 ?_;refine Aa2 ?_
   refine AT (i+1,u,σo) ⟨by dsimp only; omega,?_⟩ (by dsimp only; omega) covZ selZ
   dsimp only
   rw [hnx,← he];exact hO
  have hin2:∀ v,max c.s d.r≤v→v<t+1→v<c.e∧v+1+c.g≤d.e:=fun v h1 h2=>by
   by_cases hq:v<t
   ·exact hin v h1 hq
   ·have:v=t:=by omega
    subst this;exact ⟨c1,c2⟩
  have hhas:=refHas_spec χf (.slice pf G.length kf) G t hSf (by omega)
  rw [hasI_mem hfc] at hhas
  have hsn:=conT_snoc (d:=d) (c:=c) (i:=i) (G:=G) ht1
  have hv1:=refVtx_spec d c.f t (by omega) (by omega) (by omega)
  have hv2:=refVtx_spec d c.t (t+1+c.g) (by omega) (by omega) (by omega)
  refine Ac9 ?_;refine BD ?_;refine Aao ?_;refine CB ?_;refine Agm ?_;refine Aad ?_;refine C9 ?_;refine AR ?_;refine Aa1 ?_;refine Aay ?_;refine BC hhas rfl rfl rdZ rfl rfl ?_;rintro _ rfl
  cases hm:memI G t with
  | false =>
   rw [hm,if_neg (by simp),List.append_nil] at hsn
   refine Aak ?_;refine Agu ?_
   refine AT (t+1,u,σo) ⟨by dsimp only; omega,hin2,?_⟩ (by dsimp only; omega) covZ selZ
   dsimp only
   rw [hsn];exact hO
  | true =>
   rw [hm,if_pos rfl] at hsn
   generalize conT d c i G t=T0 at hO htot hsn
   refine Aag ?_
   refine A6 (.q 0 (.q 1 (.q 2 (.q 3 (.q 4 (.q 6 (.q 7 (.q 8 (.q 9 (.q 10 (.q 11 (.q 12 (.q 13 (.q 15 (.q 16 (.q 18 (.q 19 (.l 5 .e (.l 14 .e (.q 17 (.q 20 (.l 21 .e (.l 22 .b (.l 23 .b .nil)))))))))))))))))))))))) [] rfl (by kernel_rfl) Sel.nil ?_
   refine AI ?_;refine BJ ?_;refine Acl ?_;refine BJ ?_;refine Acl ?_;refine Afz ?_;refine Afz ?_;refine Aan ?_;refine CF (CC rfl hv1 rfl rfl rdZ rfl rfl ?_);rintro _ rfl
   skip
   refine CF (CC rfl hv2 rfl rfl rdZ rfl rfl ?_);rintro _ rfl;refine CV ?_
   focus ((refine' C1 rfl _ rfl rfl rfl rfl _; rotate_left; (focus (exact BW (out:=[int (vtx d c.f t),int (vtx d c.t (t+1+c.g)),int c.r,int (i:Int),int t]) rfl rfl rfl rfl rfl))))
   refine BF ?_; rintro _ _ ⟨b,rfl,rfl⟩
   refine CF (a_b rfl (BI (by_:=40) (s:=5) (news:=[int (vtx d c.f t),int (vtx d c.t (t+1+c.g)),int c.r,int (i:Int),int t]) rfl rfl rfl rfl rfl rfl rfl hO takeZ (cells_own memZ) rfl oneZ (by omega) (by simp only [maxLen]; omega) (by omega)) rfl rfl rfl (fun _ _ _ w hw=>hw.sel Sel.nil) ?_)
   rintro u1 _ ⟨σ2,hO2,rfl⟩;refine Agy ?_;refine Agu ?_
   refine AT (t+1,u1,σ2) ⟨by dsimp only; omega,hin2,?_⟩ (by dsimp only; omega) covZ selZ
   dsimp only
   rw [hsn,← List.append_assoc,← List.append_assoc,List.length_append,List.flatMap_append,List.append_assoc];exact hO2
 have hWl:=h.waitA_le (m:=n) (by omega)
 have hnx:waitA qs hs d (n+1)=waitA qs hs d n ++ waitN qs hs d n:=rfl
 have hQ:=List.getElem?_eq_getElem hlt
 obtain ⟨bq,oq,epq,gq⟩:=hT.rq.int hQ
 have hQb:=h.quo _ _ hQ
 have hR:=fun t:Int=>show roomT qs hs d n t=if (n:Int)=d.s∨(n:Int)=d.d then 1099511627776 else qs[n]-Step.stored hs n t by
  unfold roomT;rw [Int.toNat_natCast,List.getD_eq_getElem?_getD,hQ,Option.getD_some]
 generalize qs[n]=Q at hQ gq hQb hR
 generalize waitA qs hs d n=W at hO hWl hnx
 subst epq;refine Agf ?_;refine Aa9 ?_;refine Aas ?_;refine Aaa ?_;refine AM ?_
 refine BA [2,3,6] (X:=Int × Value × PH) (d.r,u,σo) (fun z=>d.r≤z.1∧z.1≤d.e∧OwnS 260 5 z.2.1 (W ++ waitT qs hs d n z.1).length ((W ++ waitT qs hs d n z.1).flatMap encRA) z.2.2) (fun z=>[(7,int z.1),(5,z.2.1)]) (fun z=>[z.2.2]) (fun z=>(d.e-z.1).toNat) pickZ ⟨by dsimp only; omega,by dsimp only; omega,by dsimp only; rw [waitT_nil,List.append_nil]; exact hO⟩ covZ selZ ?_
 rintro ⟨t,u,σo⟩ ⟨ht1,ht2,hO⟩
 dsimp only at ht1 ht2 hO ⊢
 have htl:=waitT_len qs hs d n t
 have htot:(W ++ waitT qs hs d n t).length≤1800:=by rw [List.length_append]; omega
 by_cases hte:t<d.e
 rotate_left
 ·have hee:t=d.e:=by omega
  subst hee;refine Ac9 ?_;refine Abv ?_;refine Aa2 ?_
  refine AT (n+1,u,σo) ⟨by dsimp only; omega,?_⟩ (by dsimp only; omega) covZ selZ
  dsimp only
  rw [hnx,← waitT_end];exact hO
 have hRt:=hR t
 have hv1:=refVtx_spec d n t (by omega) (by omega) (by omega)
 have hv2:=refVtx_spec d n (t+1) (by omega) (by omega) (by omega)
 have hst:=stored_spec υ (.slice ph hs.length kh) hs n t qs.length hT.hh h.hd (by have:=h.nh; omega)
 have hsb:=stored_bd (n:=(n:Int)) (t:=t) h.hd
 have hnh:=h.nh
 by_cases s1:(n:Int)=d.s
 ·rw [if_pos (.inl s1)] at hRt
  refine Ac9 ?_;refine Aa9 ?_;refine Aai ?_;refine Ac9 ?_;refine BK ?_;refine Abs ?_;refine Abn ?_
  refine A6 (.q 0 (.q 1 (.q 2 (.q 3 (.q 5 (.q 6 (.q 7 (.q 8 (.q 10 (.q 12 (.l 4 .e (.l 9 .e (.q 11 (.q 13 (.l 14 .e (.l 15 .b (.l 16 .b .nil))))))))))))))))) [] rfl (by kernel_rfl) Sel.nil ?_
  refine Ag7 ?_;refine Ae1 ?_;refine CY ?_;refine Aan ?_;refine CF (CC rfl hv1 rfl rfl rdZ rfl rfl ?_);rintro _ rfl
  skip
  refine CF (CC rfl hv2 rfl rfl rdZ rfl rfl ?_);rintro _ rfl;refine CV ?_
  focus ((refine' C1 rfl _ rfl rfl rfl rfl _; rotate_left; (focus (exact BW (out:=[int (vtx d n t),int (vtx d n (t+1)),int 1099511627776,int (-1),int t]) rfl rfl rfl rfl rfl))))
  refine BF ?_; rintro _ _ ⟨b,rfl,rfl⟩
  refine CF (a_b rfl (BI (by_:=40) (s:=5) (news:=[int (vtx d n t),int (vtx d n (t+1)),int 1099511627776,int (-1),int t]) rfl rfl rfl rfl rfl rfl rfl hO takeZ (cells_own memZ) rfl oneZ (by omega) (by simp only [maxLen]; omega) (by omega)) rfl rfl rfl (fun _ _ _ w hw=>hw.sel Sel.nil) ?_)
  rintro u1 _ ⟨σ2,hO2,rfl⟩;refine Agy ?_;refine Agu ?_
  refine AT (t+1,u1,σ2) ⟨by dsimp only; omega,by dsimp only; omega,?_⟩ (by dsimp only; omega) covZ selZ
  dsimp only
  rw [waitT_snoc ht1,hRt,← List.append_assoc,List.length_append,List.flatMap_append];exact hO2
 by_cases s2:(n:Int)=d.d
 ·rw [if_pos (.inr s2)] at hRt
  refine Ac9 ?_;refine Aa9 ?_;refine Aai ?_;refine Ac9 ?_;refine CJ ?_;refine AB ?_;refine Aaj ?_;refine BK ?_;refine Aem ?_
  refine A6 (.q 0 (.q 1 (.q 2 (.q 3 (.q 5 (.q 6 (.q 7 (.q 8 (.q 10 (.q 12 (.l 4 .e (.l 9 .e (.q 11 (.q 13 (.l 14 .e (.l 15 .b (.l 16 .b .nil))))))))))))))))) [] rfl (by kernel_rfl) Sel.nil ?_
  refine Ag7 ?_;refine Ae1 ?_;refine CY ?_;refine Aan ?_;refine CF (CC rfl hv1 rfl rfl rdZ rfl rfl ?_);rintro _ rfl
  skip
  refine CF (CC rfl hv2 rfl rfl rdZ rfl rfl ?_);rintro _ rfl;refine CV ?_
  focus ((refine' C1 rfl _ rfl rfl rfl rfl _; rotate_left; (focus (exact BW (out:=[int (vtx d n t),int (vtx d n (t+1)),int 1099511627776,int (-1),int t]) rfl rfl rfl rfl rfl))))
  refine BF ?_; rintro _ _ ⟨b,rfl,rfl⟩
  refine CF (a_b rfl (BI (by_:=40) (s:=5) (news:=[int (vtx d n t),int (vtx d n (t+1)),int 1099511627776,int (-1),int t]) rfl rfl rfl rfl rfl rfl rfl hO takeZ (cells_own memZ) rfl oneZ (by omega) (by simp only [maxLen]; omega) (by omega)) rfl rfl rfl (fun _ _ _ w hw=>hw.sel Sel.nil) ?_)
  rintro u1 _ ⟨σ2,hO2,rfl⟩;refine Agy ?_;refine Agu ?_
  refine AT (t+1,u1,σ2) ⟨by dsimp only; omega,by dsimp only; omega,?_⟩ (by dsimp only; omega) covZ selZ
  dsimp only
  rw [waitT_snoc ht1,hRt,← List.append_assoc,List.length_append,List.flatMap_append];exact hO2
 rw [if_neg (by omega)] at hRt
 refine Ac9 ?_;refine Aa9 ?_;refine Aai ?_;refine Ac9 ?_;refine CJ ?_;refine AB ?_;refine Aaj ?_;refine CJ ?_;refine Aez ?_
 refine A6 (.q 0 (.q 1 (.q 2 (.q 3 (.q 4 (.q 5 (.q 6 (.q 7 (.q 8 (.q 9 (.l 10 .e (.q 11 (.q 12 .nil))))))))))))) [] rfl (by kernel_rfl) Sel.nil ?_
 refine AX ?_;refine Acl ?_;refine Aco ?_;refine Aau ?_;refine Aan ?_;refine CF (CC rfl hst rfl rfl rdZ rfl rfl ?_);rintro _ rfl;refine D9 ?_;refine Adr ?_
 skip
 refine A6 (.q 0 (.q 1 (.q 2 (.q 3 (.q 5 (.q 6 (.q 7 (.q 8 (.q 10 (.q 12 (.l 4 .e (.l 9 .e (.q 11 (.q 13 (.l 14 .e (.l 15 .b (.l 16 .b .nil))))))))))))))))) [] rfl (by kernel_rfl) Sel.nil ?_
 refine Ag7 ?_;refine Ae1 ?_;refine CY ?_;refine Aan ?_;refine CF (CC rfl hv1 rfl rfl rdZ rfl rfl ?_);rintro _ rfl
 skip
 refine CF (CC rfl hv2 rfl rfl rdZ rfl rfl ?_);rintro _ rfl;refine CV ?_
 focus ((refine' C1 rfl _ rfl rfl rfl rfl _; rotate_left; (focus (exact BW (out:=[int (vtx d n t),int (vtx d n (t+1)),int (Q-Step.stored hs n t),int (-1),int t]) rfl rfl rfl rfl rfl))))
 refine BF ?_; rintro _ _ ⟨b,rfl,rfl⟩
 refine CF (a_b rfl (BI (by_:=40) (s:=5) (news:=[int (vtx d n t),int (vtx d n (t+1)),int (Q-Step.stored hs n t),int (-1),int t]) rfl rfl rfl rfl rfl rfl rfl hO takeZ (cells_own memZ) rfl oneZ (by omega) (by simp only [maxLen]; omega) (by omega)) rfl rfl rfl (fun _ _ _ w hw=>hw.sel Sel.nil) ?_)
 rintro u1 _ ⟨σ2,hO2,rfl⟩;refine Agy ?_;refine Agu ?_
 refine AT (t+1,u1,σ2) ⟨by dsimp only; omega,by dsimp only; omega,?_⟩ (by dsimp only; omega) covZ selZ
 dsimp only
 rw [waitT_snoc ht1,hRt,← List.append_assoc,List.length_append,List.flatMap_append];exact hO2
theorem RdN.pre {ρ:PH} {b o:Nat} {xs ys:List Value} (h:RdN ρ b o (xs ++ ys)):RdP ρ b o xs:=⟨fun j v hv=>h j v (by
 have hl:=(List.getElem?_eq_some_iff.1 hv).1
 rw [List.getElem?_append_left hl]
 exact hv)⟩
theorem rowN {α:Type} {enc:α→List Value} {s:Nat} (he:∀ x,(enc x).length=s) {ρ:PH} {p:Option Addr} {k:Nat} {l:List α} (h:SlE enc s ρ (.slice p l.length k) l):RowsE enc s ρ p l:=by
 obtain ⟨_,_,e,hr⟩:=h.val he
 simp only [Value.slice.injEq] at e
 obtain ⟨rfl,_,_⟩:=e
 exact hr
theorem refGraph53_spec {ρ τ σ υ:PH} {pq pc pb ph:Option Addr} {kq kc kb kh:Nat} {qs:List Int} {cs:List Ct} {bs:List Bk} {hs:List Hd} (hT:TbAt ρ τ σ υ pq pc pb ph kq kc kb kh qs cs bs hs) (d:Dm) :
  Makes Tryz.prog (fv 160) [.agg #[.slice pq qs.length kq,.slice pc cs.length kc,.slice pb bs.length kb,.slice ph hs.length kh],.agg #[int d.s,int d.d,int d.v,int d.r,int d.e]] [ρ,τ,σ,υ] (fun r χ'=>if validT qs cs bs hs d=true then ∃ u,r=.tuple #[.agg #[int (vsN qs d),u,int (vtx d d.s d.r),int (vtx d d.d d.e)],int 0]∧OwnS 157 3 u (arcsG qs cs bs hs d).length ((arcsG qs cs bs hs d).flatMap encA) χ' else r=.tuple #[.agg #[int 0,.slice none 0 0,int 0,int 0],int 1]∧χ'=emp):=by
 refine spec_in (cap:=[]) Tryz.func160 rfl rfl Tryz.ntmps160 rfl envZ (fun N β=>?_)
 refine Aa ?_;refine BH (BO rfl) rfl rfl rfl ?_;rintro _ _ ⟨b1,rfl,rfl⟩;refine AW (ρ:=sng b1 _) takeZ ?_
 have ct:=rdB b1 29 [.slice pq qs.length kq,.slice pc cs.length kc,.slice pb bs.length kb,.slice ph hs.length kh]
 have ct0:=rdC ct 0
 have ct1:=rdC ct 1
 have ct2:=rdC ct 2
 have ct3:=rdC ct 3
 have ctp:=rdQ (xs:=[_,_]) ct
 refine BH (BO rfl) rfl rfl rfl ?_;rintro _ _ ⟨b2,rfl,rfl⟩;refine AW (ρ:=sng b2 _) takeZ ?_
 have cd:=rdB b2 31 [int d.s,int d.d,int d.v,int d.r,int d.e]
 have cd0:=rdC cd 0
 have cd1:=rdC cd 1
 have cd2:=rdC cd 2
 have cd3:=rdC cd 3
 have cd4:=rdC cd 4
 refine BZ ?_;refine A4 ?_; rintro _ _ ⟨b,rfl,rfl⟩;refine Abl ?_;refine Acu ?_
 revert b; intro b4
 refine BC (refCheck53_spec hT d) rfl rfl rdZ rfl rfl ?_;rintro _ rfl
 cases hv:validT qs cs bs hs d with
 | false =>
  refine Afo ?_;refine BY ?_;refine AY ?_; rintro _ _ ⟨rfl,rfl⟩;refine Aaa ?_
  exact AO (resSE (b1:=b4) (T:=75) (v1:=[int 0,.slice none 0 0,int 0,int 0]) rfl rfl rfl rfl rfl (cells_own memZ)) rsubZ selZ ⟨emp,by (try dsimp only); rw [if_neg (by simp)]; exact ⟨rfl,rfl⟩,rfl⟩
 | true =>
 have h:=vok hv
 have hdm:=h.dm
 unfold okDm at hdm
 have hnq:=h.nq
 have hvs:=h.vs
 have hmul:(qs.length:Int)*(d.e-d.r+1)=vsN qs d:=rfl
 have hv1:=refVtx_spec d d.s d.r (by omega) (by omega) (by omega)
 have hv2:=refVtx_spec d d.d d.e (by omega) (by omega) (by omega)
 have hEl:=ea_len qs cs bs hs d h
 have hone:∀ z n (xs:List Value) (χ:PH),OwnS 157 3 z n xs χ→z.oneCell'=true:=fun z n xs χ h=>by obtain ⟨_,_,rfl⟩:=h.form; rfl
 refine Acw ?_;refine AC ?_
 refine DR (X:=Nat) [2,3,4] (fun _=>True) (fun x=>[(6,.pointer (some ⟨x,0,none⟩))]) (fun x=>[sng x (.cells #[int (vsN qs d),.slice none 0 0,int (vtx d d.s d.r),int (vtx d d.d d.e)] 75 (0,0)),sng b4 (.cells #[int 0,.slice none 0 0,int 0,int 0] 75 (0,0)),emp]) pickZ ?_ ?_
 ·refine A6 (.q 0 (.q 1 (.q 2 (.q 3 (.q 4 (.q 5 (.q 6 (.q 7 (.q 8 (.q 9 (.q 10 (.q 11 (.q 12 (.q 13 (.q 14 (.q 15 (.q 17 (.q 18 (.q 19 (.q 20 (.q 21 (.l2 16 .e (.l2 22 .e (.q 23 (.l 24 .e (.l 25 .b .nil))) 24 .e (.l 22 .e (.q 23 (.l 25 .b .nil)))) 24 .e (.l 16 .e (.l 22 .e (.q 23 (.l 25 .b .nil)))))))))))))))))))))))))) [] rfl (by kernel_rfl) Sel.nil ?_
  repeat' (first
   | (refine AQ ?_)
   | (refine AX ?_)
   | (refine CZ ?_)
   | (refine CY ?_)
   | (refine D9 ?_)
   | (refine zd_mul ?_)
   | (refine BJ ?_)
   | (refine CV ?_)
   | (focus ((refine CF (CC rfl hv1 rfl rfl rdZ rfl rfl ?_); rintro _ rfl)))
   | (focus ((refine CC rfl hv1 rfl rfl rdZ rfl rfl ?_; rintro _ rfl)))
   | (refine A7 ?_)
   | (refine DS ?_ ?_)
   | (focus ((refine CF (CC rfl hv2 rfl rfl rdZ rfl rfl ?_); rintro _ rfl)))
   | (focus ((refine CC rfl hv2 rfl rfl rdZ rfl rfl ?_; rintro _ rfl)))
   | (focus ((refine CF ?_; refine' FW rfl _ rfl rfl _ _; rotate_left; (focus (apply DV; exact rfl; exact rfl; exact takeZ; exact oneZ; exact rfl; exact rfl)); (focus (rintro _ _ ⟨_,rfl⟩ w hw; exact hw.sel Sel.nil)); rintro _ _ ⟨rfl,rfl⟩)))
   | (refine C5 ?_; rintro _ _ ⟨b,rfl,rfl⟩)
   | (refine CS ?_; rintro _ _ ⟨b,rfl,rfl⟩)
   | fail)
  all_goals (rw [hmul]; refine B5 _ trivial covZ selZ)
 rintro b6 _;refine Acu ?_;refine BV (refArcs_spec hT d h) rfl rfl rdZ rfl rfl ?_;rintro ua χa hOa
 have hSa:SlE encRA 5 χa ua (arcsE qs cs bs hs d):=hOa.at
 obtain ⟨pa,ka,rfl⟩:=hOa.form
 have hra:=rowN encRA_len hSa
 refine AW (ρ:=χa) takeZ ?_
 have hAG:arcsG qs cs bs hs d=(arcsE qs cs bs hs d).map (fun x=>x.a):=rfl
 rw [hAG]
 generalize arcsE qs cs bs hs d=L at hEl hOa hSa hra
 clear hAG;refine Adt ?_
 refine BA [2,3,4,6,7] (X:=Nat × Value × PH) (0,.slice none 0 0,emp) (fun z=>z.1≤L.length∧OwnS 157 3 z.2.1 (L.take z.1).length ((L.take z.1).flatMap (fun e=>encA e.a)) z.2.2) (fun z=>[(8,int z.1)]) (fun z=>[sng b6 (.cells #[int (vsN qs d),z.2.1,int (vtx d d.s d.r),int (vtx d d.d d.e)] 75 (0,0)),sng b4 (.cells #[int 0,.slice none 0 0,int 0,int 0] 75 (0,0)),z.2.2]) (fun z=>L.length-z.1) pickZ ⟨by dsimp only; omega,OwnS.nil _ _⟩ covZ selZ ?_
 rintro ⟨k,u,σ1⟩ ⟨hk,hO⟩
 dsimp only at hk hO ⊢
 have hu1:=hone _ _ _ _ hO
 by_cases hlt:k<L.length
 rotate_left
 ·rw [List.take_of_length_le (by omega)] at hO
  have hO2:OwnS 157 3 u (L.map (fun x=>x.a)).length ((L.map (fun x=>x.a)).flatMap encA) σ1:=by
   rw [List.length_map,List.flatMap_map];exact hO
  refine Aci ?_;refine Abt ?_;refine AY ?_; rintro _ _ ⟨rfl,rfl⟩;refine Aaa ?_
  exact AO (resSE (b1:=b4) (T:=75) (v1:=[int (vsN qs d),u,int (vtx d d.s d.r),int (vtx d d.d d.e)]) rfl rfl rfl rfl rfl (cells_own memZ)) rsubZ selZ ⟨σ1,by (try dsimp only); rw [if_pos rfl]; exact ⟨u,rfl,hO2⟩,rfl⟩
 have hx:=List.getElem?_eq_getElem hlt
 have hti:=List.take_succ_eq_append_getElem hlt
 have hil:(L.take k).length≤1000000:=by rw [List.length_take]; omega
 obtain ⟨b7,o7,epa,hrd⟩:=hra k _ hx
 generalize L[k]=x at hx hti hrd
 generalize L.take k=O at hO hti hil
 have px:=RdN.pre (xs:=[int x.a.f,int x.a.t,int x.a.c]) (ys:=[int x.c,int x.t]) hrd
 clear hrd;subst epa;refine Abo ?_
 refine A6 (.q 0 (.q 1 (.q 2 (.q 3 (.q 4 (.q 5 (.q 6 (.l 7 .e (.l 8 .b (.q 9 (.l 10 .b .nil))))))))))) [] rfl (by kernel_rfl) Sel.nil ?_
 refine Aau ?_;refine Ab1 ?_;refine BX ?_;refine BJ ?_;refine BF ?_; rintro _ _ ⟨b,rfl,rfl⟩
 refine CF (a_b rfl (BI (by_:=24) (s:=3) (news:=[int x.a.f,int x.a.t,int x.a.c]) rfl rfl rfl rfl rfl rfl rfl hO takeZ (cells_own memZ) rfl oneZ (by omega) (by simp only [maxLen]; omega) (by omega)) rfl rfl rfl (fun _ _ _ w hw=>hw.sel Sel.nil) ?_)
 rintro u1 _ ⟨σ2,hO1,rfl⟩
 have hu2:=hone _ _ _ _ hO1
 refine AX ?_;refine D0 ?_; rintro _ _ ⟨rfl,rfl⟩;refine A7 ?_;refine Aa2 ?_
 refine AT (k+1,u1,σ2) ⟨by dsimp only; omega,?_⟩ (by dsimp only; omega) covZ selZ
 dsimp only
 rw [hti,List.length_append,List.flatMap_append];exact hO1
theorem sameShips_spec (ρ τ:PH) (p p':Option Addr) (kk kk':Nat) (l:List Sh) (hv:ShAt ρ (.slice p l.length kk) l) (hw:ShAt τ (.slice p' l.length kk') l) (hl:l.length≤1000000) :
  Ans Tryz.prog (fv 55) [.slice p l.length kk,.slice p' l.length kk'] [ρ,τ] (fun r=>r=.bool true):=by
 have hr:=rowN encX_len hv
 have hr':=rowN encX_len hw
 refine spec_in (cap:=[]) Tryz.func55 rfl rfl Tryz.ntmps55 rfl envZ (fun N β=>?_)
 refine Ahh ?_;refine Acv ?_
 refine BA [0,1] (0:Nat) (fun k=>k≤l.length) (fun k=>[(5,int k)]) (fun _=>[]) (fun k=>l.length-k) pickZ (by omega) covZ selZ ?_
 rintro k hk
 by_cases hlt:k<l.length
 ·have hx:=List.getElem?_eq_getElem hlt
  obtain ⟨b1,o1,rfl,hRd1⟩:=hr k _ hx
  obtain ⟨b2,o2,rfl,hRd2⟩:=hr' k _ hx
  generalize l[k]=x at hRd1 hRd2 hx
  refine Ad9 ?_
  refine A6 P7Z [] rfl (by kernel_rfl) Sel.nil ?_
  refine Ae ?_;refine Ae ?_
  focus ((refine' C1 rfl _ rfl rfl rfl rfl _; rotate_left; (apply FQ [x.c,x.t,x.n] [x.c,x.t,x.n] (n:=3); exact rfl; exact rfl; kernel_rfl; kernel_rfl; kernel_rfl; exact rfl; exact rfl)))
  refine A7 ?_
  rw [show (!decide ([x.c,x.t,x.n]=[x.c,x.t,x.n]))=false by simp]
  skip
  refine Abd ?_;refine Aa2 ?_
  exact AT (k+1) (by omega) (by omega) covZ selZ
 ·refine AC ?_
  refine Aea ?_;refine Abv ?_;refine Aai ?_;exact A3 ⟨rfl,rfl⟩
theorem refShips53_spec {ρ τ σ υ:PH} {pq pc pb ph:Option Addr} {kq kc kb kh:Nat} {qs:List Int} {cs:List Ct} {bs:List Bk} {hs:List Hd} (hT:TbAt ρ τ σ υ pq pc pb ph kq kc kb kh qs cs bs hs) (d:Dm) (ω:PH) (u0:Value) (fl:List Int) (hu:IntsAt ω u0 fl) :
  Makes Tryz.prog (fv 109) [.agg #[.slice pq qs.length kq,.slice pc cs.length kc,.slice pb bs.length kb,.slice ph hs.length kh],.agg #[int d.s,int d.d,int d.v,int d.r,int d.e],u0] [ρ,τ,σ,υ,ω] (fun r χ=>∃ u,r=.tuple #[u,int (shipsE qs cs bs hs d fl)]∧OwnS 62 3 u (shipsR qs cs bs hs d fl).length ((shipsR qs cs bs hs d fl).flatMap encX) χ):=by
 obtain ⟨pf,kf,rfl,hrf⟩:=hu.val Eng.encI_len
 refine spec_in (cap:=[]) Tryz.func109 rfl rfl Tryz.ntmps109 rfl envZ (fun N β=>?_)
 refine Aa ?_;refine BH (BO rfl) rfl rfl rfl ?_;rintro _ _ ⟨b1,rfl,rfl⟩;refine AW (ρ:=sng b1 _) takeZ ?_
 have ct:=rdB b1 29 [.slice pq qs.length kq,.slice pc cs.length kc,.slice pb bs.length kb,.slice ph hs.length kh]
 have ct0:=rdC ct 0
 have ct1:=rdC ct 1
 have ct2:=rdC ct 2
 have ct3:=rdC ct 3
 have ctp:=rdQ (xs:=[_,_]) ct
 refine BH (BO rfl) rfl rfl rfl ?_;rintro _ _ ⟨b2,rfl,rfl⟩;refine AW (ρ:=sng b2 _) takeZ ?_
 have cd:=rdB b2 31 [int d.s,int d.d,int d.v,int d.r,int d.e]
 have cd0:=rdC cd 0
 have cd1:=rdC cd 1
 have cd2:=rdC cd 2
 have cd3:=rdC cd 3
 have cd4:=rdC cd 4
 refine Aal ?_;refine Aa ?_;refine AZ ?_; rintro _ _ ⟨b,rfl,rfl⟩;refine Aaa ?_;refine Acu ?_
 revert b; intro b8
 refine BV (refGraph53_spec hT d) rfl rfl rdZ rfl rfl ?_;rintro _ σg hg
 cases hv:validT qs cs bs hs d with
 | false =>
  rw [hv,if_neg (by simp)] at hg
  obtain ⟨rfl,rfl⟩:=hg
  have hE:shipsE qs cs bs hs d fl=1:=by unfold shipsE; rw [if_neg (by simp [hv])]
  have hR:shipsR qs cs bs hs d fl=[]:=by unfold shipsR; rw [hE,if_neg (by omega)]
  rw [hE,hR];refine Ab ?_;refine A4 ?_; rintro _ _ ⟨b,rfl,rfl⟩;refine AY ?_; rintro _ _ ⟨rfl,rfl⟩;refine Adz ?_;refine Afx ?_;refine Aay ?_;refine Aal ?_;exact AO (res2 rfl rfl rfl) rsubZ selZ ⟨_,⟨_,rfl,OwnS.empty⟩,rfl⟩
 | true =>
 rw [hv,if_pos rfl] at hg
 obtain ⟨ug,rfl,hOg⟩:=hg
 have hAt:ArcsAt σg ug (arcsG qs cs bs hs d):=hOg.at
 obtain ⟨pg,kg,rfl⟩:=hOg.form
 have hEv:shipsE qs cs bs hs d fl=(Go.Flow.valueSpec (vsN qs d) (arcsG qs cs bs hs d) fl (vtx d d.s d.r) (vtx d d.d d.e)).2:=by unfold shipsE; rw [if_pos hv]
 have h:=vok hv
 have hEl:=ea_len qs cs bs hs d h
 have hAl:(arcsG qs cs bs hs d).length=(arcsE qs cs bs hs d).length:=by unfold arcsG; rw [List.length_map]
 refine AW (ρ:=σg) takeZ ?_;refine Ab ?_;refine A4 ?_; rintro _ _ ⟨b,rfl,rfl⟩;refine AY ?_; rintro _ _ ⟨rfl,rfl⟩;refine Adz ?_;refine Aek ?_;refine Ab4 ?_;refine Abj ?_
 revert b; intro bg
 have hval:=refValue_spec σg ω _ _ (vsN qs d) (vtx d d.s d.r) (vtx d d.d d.e) (arcsG qs cs bs hs d) fl hAt hu (by omega)
 skip
 refine BC hval rfl rfl rdZ rfl rfl ?_;rintro _ rfl;rw [← hEv]
 generalize (Go.Flow.valueSpec (vsN qs d) (arcsG qs cs bs hs d) fl (vtx d d.s d.r) (vtx d d.d d.e)).1=vv
 by_cases hz:shipsE qs cs bs hs d fl=0
 rotate_left
 ·have hR:shipsR qs cs bs hs d fl=[]:=by unfold shipsR; rw [if_neg hz]
  rw [hR];refine Adn ?_;refine Afx ?_;refine Aay ?_;refine Aal ?_;exact AO (res2 rfl rfl rfl) rsubZ selZ ⟨_,⟨_,rfl,OwnS.empty⟩,rfl⟩
 have hR:shipsR qs cs bs hs d fl=shipsF (arcsE qs cs bs hs d) fl:=by unfold shipsR; rw [if_pos hz]
 have hfl:=shipsE_len hv hz
 rw [hz,hR];refine Adn ?_;refine Abh ?_;refine Acu ?_;refine BV (refArcs_spec hT d h) rfl rfl rdZ rfl rfl ?_;rintro ua χa hOa
 have hSa:SlE encRA 5 χa ua (arcsE qs cs bs hs d):=hOa.at
 obtain ⟨pa,ka,rfl⟩:=hOa.form
 have hra:=rowN encRA_len hSa
 refine AW (ρ:=χa) takeZ ?_;clear hAl hAt hval hOg hEv hR
 generalize arcsE qs cs bs hs d=L at hEl hOa hSa hra hfl
 refine Adt ?_
 refine BA [2,13] (X:=Nat × Value × PH) (0,.slice (some ⟨b8,0,none⟩) 0 0,sng b8 (.cells #[] 62 (0,0))) (fun z=>z.1≤L.length∧OwnS 62 3 z.2.1 (shipsF (L.take z.1) (fl.take z.1)).length ((shipsF (L.take z.1) (fl.take z.1)).flatMap encX) z.2.2) (fun z=>[(14,int z.1),(8,z.2.1)]) (fun z=>[z.2.2]) (fun z=>L.length-z.1) pickZ ⟨by dsimp only; omega,OwnS.empty⟩ covZ selZ ?_
 rintro ⟨k,u,σ1⟩ ⟨hk,hO⟩
 dsimp only at hk hO ⊢
 by_cases hlt:k<L.length
 rotate_left
 ·rw [List.take_of_length_le (by omega),List.take_of_length_le (by omega)] at hO
  refine Aci ?_;refine Afh ?_;exact AO (res2 rfl rfl rfl) rsubZ selZ ⟨σ1,⟨u,rfl,hO⟩,rfl⟩
 have hx:=List.getElem?_eq_getElem hlt
 have hy:=List.getElem?_eq_getElem (show k<fl.length by omega)
 have hnx:=shipsF_next hfl hx hy
 have hsl:=shipsF_len (L.take k) (fl.take k)
 rw [List.length_take] at hsl
 obtain ⟨bo,oo,epf,gf⟩:=hrf.int hy
 obtain ⟨b7,o7,epa,hrd⟩:=hra k _ hx
 have r3:rdc χa b7 (o7+k*5+3)=some (int L[k].c):=hrd.get (j:=3) rfl
 have r4:rdc χa b7 (o7+k*5+4)=some (int L[k].t):=hrd.get (j:=4) rfl
 clear hrd
 generalize shipsF (L.take k) (fl.take k)=O at hO hsl hnx
 generalize L[k]=x at hx hnx r3 r4
 generalize fl[k]=y at hy gf hnx
 subst epf epa
 by_cases hc:0≤x.c
 ·by_cases hy0:0<y
  ·rw [if_pos ⟨hc,hy0⟩] at hnx
   refine Agg ?_;refine CX ?_;refine Abp ?_;refine Acb ?_;refine CT ?_;refine Aez ?_
   refine A6 (.q 0 (.q 1 (.q 2 (.q 3 (.q 4 (.q 5 (.q 6 (.q 7 (.q 8 (.q 9 (.q 10 (.q 11 (.q 12 (.q 13 (.q 14 (.q 15 (.l 16 .e (.l 17 .b (.l 18 .b .nil))))))))))))))))))) [] rfl (by kernel_rfl) Sel.nil ?_
   refine Ad1 ?_;refine Ado ?_;refine Adj ?_;refine CV ?_;refine BF ?_; rintro _ _ ⟨b,rfl,rfl⟩
   refine CF (a_b rfl (BI (by_:=24) (s:=3) (news:=[int x.c,int x.t,int y]) rfl rfl rfl rfl rfl rfl rfl hO takeZ (cells_own memZ) rfl oneZ (by omega) (by simp only [maxLen]; omega) (by omega)) rfl rfl rfl (fun _ _ _ w hw=>hw.sel Sel.nil) ?_)
   rintro u1 _ ⟨σ2,hO2,rfl⟩;refine Agy ?_;refine Aa2 ?_
   refine AT (k+1,u1,σ2) ⟨by dsimp only; omega,?_⟩ (by dsimp only; omega) covZ selZ
   dsimp only
   rw [hnx,List.length_append,List.flatMap_append];exact hO2
  ·rw [if_neg (fun h=>hy0 h.2),List.append_nil] at hnx
   refine Agg ?_;refine CX ?_;refine Abp ?_;refine Acb ?_;refine B7 ?_;refine Agq ?_
   refine AT (k+1,u,σ1) ⟨by dsimp only; omega,?_⟩ (by dsimp only; omega) covZ selZ
   dsimp only
   rw [hnx];exact hO
 ·rw [if_neg (fun h=>hc h.1),List.append_nil] at hnx
  refine Agg ?_;refine BP ?_;refine Aa4 ?_;refine Afs ?_
  refine AT (k+1,u,σ1) ⟨by dsimp only; omega,?_⟩ (by dsimp only; omega) covZ selZ
  dsimp only
  rw [hnx];exact hO
end Go.Proofs.YtjehnjhkcmobcaaGreat
namespace Go.Step
theorem stored_ge0 {l:List Hd} (h:∀ x∈l,0≤x.s) (n t:Int):0≤stored l n t:=by
  induction l with
  | nil=>simp [stored]
  | cons x l ih =>
    have h1:=h x (by simp)
    have h2:=ih (fun y hy=>h y (by simp [hy]))
    unfold stored
    split <;> omega
theorem fit_sub {qs:List Int} {A M B:List Hd} (hp:M.Perm (A ++ B)) (hB:∀ x∈B,0≤x.s) (hf:fitB qs M=true):fitB qs A=true:=by
  rw [fitB_iff] at hf ⊢
  intro h hh
  have h1:=hf h (hp.mem_iff.2 (List.mem_append.2 (.inl hh)))
  rw [stored_perm hp,stored_append] at h1
  have:=stored_ge0 hB h.n h.a
  omega
structure AddI (qs:List Int) (cs:List Ct) (hs more:List Hd) (i:Nat) (L:List Hd):Prop where
  pm:L.Perm (hs ++ more.take i)
  st:SortH L
  ck:chkH qs cs L=0
theorem AddI.start {qs:List Int} {cs:List Ct} {hs more:List Hd} (h:chkH qs cs hs=0):AddI qs cs hs more 0 hs:=
  ⟨by simp,sortH_of (chkH_parts h).2.2.1,h⟩
theorem AddI.step {qs:List Int} {cs:List Ct} {hs more L:List Hd} {i:Nat} {x:Hd} (h:AddI qs cs hs more i L) (hx:more[i]?=some x) (hlen:hs.length+more.length≤512) (hsz:∀ y∈more,0≤y.s) :
    (addR qs cs L x=(insH L x,0)∧AddI qs cs hs more (i+1) (insH L x))∨((addR qs cs L x).2≠0∧(addR qs cs L x).1=[]∧∀ M:List Hd,M.Perm (hs ++ more)→chkH qs cs M≠0):=by
  obtain ⟨hi,e⟩:=List.getElem?_eq_some_iff.1 hx
  have hLl:L.length=hs.length+i:=by
    rw [h.pm.length_eq,List.length_append,List.length_take];omega
  obtain ⟨p1,p2,p3,p4⟩:=chkH_parts h.ck
  have hLok:∀ y∈L,okHd qs.length y:=fun y hy=>hdE_ok p3 y (by rwa [List.take_length])
  have htk:more.take (i+1)=more.take i ++ [x]:=by rw [List.take_succ_eq_append_getElem hi,e]
  have hmr:more=more.take i ++ (x::more.drop (i+1)):=by rw [← e,← List.drop_eq_getElem_cons hi,List.take_append_drop]
  by_cases hok:okHd qs.length x
  rotate_left
  · right
    have ea:addR qs cs L x=([],2):=by
      unfold addR
      rw [if_neg (by rw [h.ck]; simp),if_pos hok]
    refine ⟨by rw [ea]; decide,by rw [ea],fun M hM hc=>?_⟩
    obtain ⟨_,_,c3,_⟩:=chkH_parts hc
    refine hok (hdE_ok c3 x ?_);rw [List.take_length];exact hM.mem_iff.2 (List.mem_append.2 (.inr (List.mem_of_getElem? hx)))
  have hpi:(insH L x).Perm (hs ++ more.take (i+1)):=by
    rw [htk,← List.append_assoc];exact (insH_perm L x).trans ((List.Perm.cons x h.pm).trans (List.perm_append_singleton x _).symm)
  have hil:(insH L x).length=L.length+1:=by rw [(insH_perm L x).length_eq,List.length_cons]
  by_cases hf:fitB qs (insH L x)=true
  · left
    refine ⟨?_,hpi,insH_sort h.st x,chkH_of p1 (by omega) (fun y hy=>?_) (insH_sort h.st x) hf⟩
    · unfold addR
      rw [if_neg (by rw [h.ck]; simp),if_neg (by simpa using hok),if_neg (by omega),if_pos hf]
    · rcases List.mem_cons.1 ((insH_perm L x).mem_iff.1 hy) with rfl|hy
      · exact hok
      · exact hLok y hy
  · right
    have ea:addR qs cs L x=([],15):=by
      unfold addR
      rw [if_neg (by rw [h.ck]; simp),if_neg (by simpa using hok),if_neg (by omega),if_neg hf]
    refine ⟨by rw [ea]; decide,by rw [ea],fun M hM hc=>hf ?_⟩
    refine fit_sub (B:=more.drop (i+1)) ?_ (fun y hy=>hsz y (List.mem_of_mem_drop hy)) (chkH_parts hc).2.2.2
    have h1:(hs ++ more).Perm ((hs ++ more.take (i+1)) ++ more.drop (i+1)):=by
      rw [List.append_assoc,List.take_append_drop]
    exact hM.trans (h1.trans (hpi.symm.append_right _))
theorem AddI.end {qs:List Int} {cs:List Ct} {hs more L:List Hd} (h:AddI qs cs hs more more.length L):L.Perm (hs ++ more)∧SortH L∧chkH qs cs L=0:=
  ⟨by have:=h.pm; rwa [List.take_length] at this,h.st,h.ck⟩
def gtB (y b:Bk):Prop:=b.c<y.c∨(y.c=b.c∧b.a<y.a)
abbrev BkS (l:List Bk):Prop:=l.Pairwise (fun x y=>¬ cmpBk y x<0)
theorem ins_bk {A B:List Bk} {b:Bk} (hs:BkS (A ++ B)) (hA:∀ y∈A,¬ gtB y b) (hB:∀ y,B.head?=some y→gtB y b):BkS (A ++ b::B):=by
  obtain ⟨h1,h2,h3⟩:=List.pairwise_append.1 hs
  have hB2:∀ y∈B,gtB y b:=by
    cases B with
    | nil=>simp
    | cons z B =>
      have hz:=hB z rfl
      intro y hy
      rcases List.mem_cons.1 hy with rfl|hy
      · exact hz
      · have:=(List.pairwise_cons.1 h2).1 y hy
        rw [cmpBk_lt] at this;unfold gtB at *;omega
  refine List.pairwise_append.2 ⟨h1,List.pairwise_cons.2 ⟨fun y hy=>?_,h2⟩,fun x hx y hy=>?_⟩
  · have:=hB2 y hy
    rw [cmpBk_lt];unfold gtB at this;omega
  · rcases List.mem_cons.1 hy with rfl|hy
    · have:=hA x hx
      rw [cmpBk_lt];unfold gtB at this;omega
    · exact h3 x hx y hy
theorem bks_weak {qs:List Int} {cs:List Ct} {bs:List Bk} (h:chkB qs cs bs=0):BkS bs:=by
  obtain ⟨_,b2⟩:=chkB_ok h
  refine (bks_apart b2).imp_of_mem (fun {x y} hx hy h=>?_)
  obtain ⟨_,_,_,_,k1,_⟩:=bkE_ok b2 x hx
  rw [cmpBk_lt];omega
theorem rsv_with {qs:List Int} {cs:List Ct} {bs:List Bk} {hs:List Hd} {l:List Sh} {R B1:List Bk} (h0:chkB qs cs bs=0) (hE:firstE (rsvE cs bs l) l.length=0) (rn:R.Nodup) (rm:∀ b,b∈R↔IsRun (ticksS l) b) (pb:B1.Perm (bs ++ R)) (hp:BkS B1):∃ hs1,RsvOK qs cs bs hs l R B1 hs1:=by
  obtain ⟨R',bs1,hs1,hk⟩:=rsv_exists (qs:=qs) (hs:=hs) h0 hE
  exact ⟨hs1,rn,rm,pb,bks_strict h0 hE rn rm pb hp,hk.ph,hk.sh⟩
theorem pieces_sz {n a b s:Int} {k:Nat} (h:65536*(k:Int)<s+65536):∀ y∈pieces n a b s k,0≤y.s:=fun y hy=>by
  unfold pieces at hy
  obtain ⟨i,hi,rfl⟩:=List.mem_map.1 hy
  rw [List.mem_range] at hi
  dsimp only
  omega
theorem holdsA_sz {cs:List Ct} {l:List Sh}:∀ {k:Nat},∀ y∈holdsA cs l k,0≤y.s
  | 0,y,h=>by simp [holdsA] at h
  | k+1,y,h=>by
    have e:holdsA cs l (k+1)=holdsA cs l k ++ (if netS cs k l=0 then holdsN cs k l else []):=rfl
    rw [e] at h
    rcases List.mem_append.1 h with h|h
    · exact holdsA_sz y h
    · split at h
      · unfold holdsN at h
        obtain ⟨p,hp,hy⟩:=List.mem_flatMap.1 h
        have hs:0<p.2:=by
          obtain ⟨q,hq⟩:=evs_low cs (k:Int) l
          have:=spL_low (p:=q) (lvN_ok cs (k:Int) l).1 (fun y hy=>by
            have h1:=(((lvN_ok cs (k:Int) l).2.1 y).1 hy).2
            have h3:y.a∈evsN cs (k:Int) l:=Classical.not_not.1 (fun h=>h1 (chg_evs h))
            have:=hq _ h3
            omega) p hp
          exact this.2.2.1
        exact pieces_sz (pieceN_ok hs).1 y hy
      · simp at h
end Go.Step
namespace Go.Proofs.YtjehnjhkcmobcaaGreat
open Go.Eng Go.Step
set_option maxRecDepth 100000
set_option maxHeartbeats 64000000
theorem same27_spec (ρ τ:PH) (v w:Value) (l:List Bk) (hv:BkAt ρ v l) (hw:BkAt τ w l) (hl:l.length≤9223372036854775807) :
  Ans Tryz.prog (fv 57) [v,w] [ρ,τ] (fun r=>r=.bool true):=by
 obtain ⟨p,kk,rfl,hr⟩:=hv.val encB_len
 obtain ⟨p',kk',rfl,hr'⟩:=hw.val encB_len
 refine spec_in (cap:=[]) Tryz.func57 rfl rfl Tryz.ntmps57 rfl envZ (fun N β=>?_)
 refine Ahh ?_;refine Acv ?_
 refine BA [0,1] (0:Nat) (fun k=>k≤l.length) (fun k=>[(5,int k)]) (fun _=>[]) (fun k=>l.length-k) pickZ (by omega) covZ selZ ?_
 rintro k hk
 by_cases hlt:k<l.length
 ·have hx:=List.getElem?_eq_getElem hlt
  obtain ⟨b1,o1,rfl,hRd1⟩:=hr k _ hx
  obtain ⟨b2,o2,rfl,hRd2⟩:=hr' k _ hx
  generalize l[k]=x at hRd1 hRd2 hx
  have g1:RdN ρ b1 (o1+k*4) [int x.c,int x.a,int x.b,int x.k]:=hRd1
  have g2:RdN τ b2 (o2+k*4) [int x.c,int x.a,int x.b,int x.k]:=hRd2
  refine Ad9 ?_
  refine A6 P7Z [] rfl (by kernel_rfl) Sel.nil ?_
  refine Ae ?_;refine Ae ?_
  focus ((refine' C1 rfl _ rfl rfl rfl rfl _; rotate_left; (apply FQ [x.c,x.a,x.b,x.k] [x.c,x.a,x.b,x.k] (n:=4); exact rfl; exact rfl; kernel_rfl; kernel_rfl; kernel_rfl; exact rfl; exact rfl)))
  refine A7 ?_
  rw [show (!decide ([x.c,x.a,x.b,x.k]=[x.c,x.a,x.b,x.k]))=false by simp]
  skip
  refine Abd ?_;refine Aa2 ?_
  exact AT (k+1) (by omega) (by omega) covZ selZ
 ·refine AC ?_
  refine Aea ?_;refine Abv ?_;refine Aai ?_;exact A3 ⟨rfl,rfl⟩
theorem sameT_spec {ρ τ σ υ ρ2 τ2 σ2 υ2:PH} {pq pc pb ph pq2 pc2 pb2 ph2:Option Addr} {kq kc kb kh kq2 kc2 kb2 kh2:Nat} {qs:List Int} {cs:List Ct} {bs:List Bk} {hs:List Hd} (hT:TbAt ρ τ σ υ pq pc pb ph kq kc kb kh qs cs bs hs) (hT2:TbAt ρ2 τ2 σ2 υ2 pq2 pc2 pb2 ph2 kq2 kc2 kb2 kh2 qs cs bs hs) :
  Ans Tryz.prog (fv 21) [.agg #[.slice pq qs.length kq,.slice pc cs.length kc,.slice pb bs.length kb,.slice ph hs.length kh],.agg #[.slice pq2 qs.length kq2,.slice pc2 cs.length kc2,.slice pb2 bs.length kb2,.slice ph2 hs.length kh2]] [ρ,τ,σ,υ,ρ2,τ2,σ2,υ2] (fun r=>r=.bool true):=by
 have hrc:=hT.rc
 have hrc2:=hT2.rc
 have hrq:=rowN Eng.encI_len hT.hq
 have hrq2:=rowN Eng.encI_len hT2.hq
 have lq:=hT.lq
 have lc:=hT.lc
 have hsb:=same27_spec σ σ2 _ _ bs hT.hb hT2.hb hT.lb
 have hsh:=same28_spec υ υ2 _ _ hs hs hT.hh hT2.hh hT.lh
 rw [decide_eq_true rfl] at hsh
 refine spec_in (cap:=[]) Tryz.func21 rfl rfl Tryz.ntmps21 rfl envZ (fun N β=>?_)
 refine Aa ?_;refine BH (BO rfl) rfl rfl rfl ?_;rintro _ _ ⟨b2,rfl,rfl⟩;refine AW (ρ:=sng b2 _) takeZ ?_
 have ct:=rdB b2 29 [.slice pq qs.length kq,.slice pc cs.length kc,.slice pb bs.length kb,.slice ph hs.length kh]
 have ct0:=rdC ct 0
 have ct1:=rdC ct 1
 have ct2:=rdC ct 2
 have ct3:=rdC ct 3
 have ctp:=rdQ (xs:=[_,_]) ct
 refine BH (BO rfl) rfl rfl rfl ?_;rintro _ _ ⟨b3,rfl,rfl⟩;refine AW (ρ:=sng b3 _) takeZ ?_
 have cu:=rdB b3 29 [.slice pq2 qs.length kq2,.slice pc2 cs.length kc2,.slice pb2 bs.length kb2,.slice ph2 hs.length kh2]
 have cu0:=rdC cu 0
 have cu1:=rdC cu 1
 have cu2:=rdC cu 2
 have cu3:=rdC cu 3
 have cup:=rdQ (xs:=[_,_]) cu
 refine Abl ?_;refine Aa ?_;refine Acx ?_;refine Acx ?_;refine BK ?_;refine AB ?_;refine Acx ?_;refine Acx ?_;refine BK ?_;refine Abn ?_;refine Acv ?_
 refine BA [2,3] (0:Nat) (fun k=>k≤cs.length) (fun k=>[(5,int k)]) (fun _=>[]) (fun k=>cs.length-k) pickZ (by omega) covZ selZ ?_
 rintro k hk
 by_cases hlt:k<cs.length
 ·have hx:=List.getElem?_eq_getElem hlt
  obtain ⟨b5,o5,e5,hRd1⟩:=hrc k _ hx
  obtain ⟨b6,o6,e6,hRd2⟩:=hrc2 k _ hx
  generalize cs[k]=x at hRd1 hRd2 hx
  have g1:RdN τ b5 (o5+k*7) [int x.f,int x.t,int x.s,int x.e,int x.r,int x.g,int x.l]:=hRd1
  have g2:RdN τ2 b6 (o6+k*7) [int x.f,int x.t,int x.s,int x.e,int x.r,int x.g,int x.l]:=hRd2
  subst e5;subst e6;refine Agf ?_;refine Agi ?_
  refine A6 P3Z [] rfl (by kernel_rfl) Sel.nil ?_
  refine AX ?_;refine Acl ?_;refine BB ?_;refine BJ ?_;refine AX ?_;refine Acl ?_;refine BB ?_;refine BJ ?_
  focus ((refine' C1 rfl _ rfl rfl rfl rfl _; rotate_left; (apply FQ [x.f,x.t,x.s,x.e,x.r,x.g,x.l] [x.f,x.t,x.s,x.e,x.r,x.g,x.l] (n:=7); exact rfl; exact rfl; kernel_rfl; kernel_rfl; kernel_rfl; exact rfl; exact rfl)))
  refine A7 ?_
  rw [show (!decide ([x.f,x.t,x.s,x.e,x.r,x.g,x.l]=[x.f,x.t,x.s,x.e,x.r,x.g,x.l]))=false by simp]
  skip
  refine Abd ?_;refine Aa2 ?_
  exact AT (k+1) (by omega) (by omega) covZ selZ
 refine Agf ?_;refine Abv ?_;refine Acv ?_
 refine BA [2,3] (0:Nat) (fun k=>k≤qs.length) (fun k=>[(6,int k)]) (fun _=>[]) (fun k=>qs.length-k) pickZ (by omega) covZ selZ ?_
 rintro j hj
 by_cases hlt2:j<qs.length
 ·have hx:=List.getElem?_eq_getElem hlt2
  obtain ⟨b5,o5,e5,gj⟩:=hrq.int hx
  obtain ⟨b6,o6,e6,gj2⟩:=hrq2.int hx
  generalize qs[j]=x at gj gj2 hx
  subst e5;subst e6;refine Agf ?_;refine Agi ?_
  refine A6 P3Z [] rfl (by kernel_rfl) Sel.nil ?_
  refine AX ?_;refine Acl ?_;refine Aco ?_;refine AX ?_;refine Acl ?_;refine Aco ?_;refine EV ?_;refine Aee ?_
  exact AT (j+1) (by omega) (by omega) covZ selZ
 refine Agf ?_;refine Abv ?_;refine Ab4 ?_;refine BC hsb rfl rfl rdZ rfl rfl ?_;rintro _ rfl;refine Abj ?_;refine BC hsh rfl rfl rdZ rfl rfl ?_;rintro _ rfl;refine Acs ?_;exact A3 ⟨rfl,rfl⟩
theorem insert27_spec (ρ:PH) (v:Value) (l:List Bk) (x:Bk) (hv:BkAt ρ v l) (hl:l.length≤1000000) :
  Makes Tryz.prog (fv 53) [v,.agg #[int x.c,int x.a,int x.b,int x.k]] [ρ] (fun r σ=>∃ A B,l=A ++ B∧(∀ y∈A,¬ gtB y x)∧(∀ y,B.head?=some y→gtB y x)∧OwnS 95 4 r (A ++ x::B).length ((A ++ x::B).flatMap encB) σ):=by
 obtain ⟨q,c,rfl,hr⟩:=hv.val encB_len
 refine spec_in (cap:=[]) Tryz.func53 rfl rfl Tryz.ntmps53 rfl envZ (fun N β=>?_)
 refine Aa ?_;refine BH (BO rfl) rfl rfl rfl ?_;rintro _ _ ⟨b3,rfl,rfl⟩;refine AW (ρ:=sng b3 _) takeZ ?_
 have cb:=rdB b3 95 [int x.c,int x.a,int x.b,int x.k]
 have cb0:=rdC cb 0
 have cb1:=rdC cb 1
 have cb2:=rdC cb 2
 have cb3:=rdC cb 3
 refine BZ ?_;refine Aaa ?_;refine Aai ?_;refine Af5 ?_
 refine BA [0,3] (X:=Nat × Bool × (List Bk × List Bk) × Value × PH) (0,false,([],[]),.slice none 0 0,emp) (fun z=>z.1≤l.length∧l.take z.1=z.2.2.1.1 ++ z.2.2.1.2∧(∀ y∈z.2.2.1.1,¬ gtB y x)∧(∀ y,z.2.2.1.2.head?=some y→gtB y x)∧(z.2.1=false→z.2.2.1.2=[])∧(z.2.1=true→z.2.2.1.2≠[])∧OwnS 95 4 z.2.2.2.1 (z.2.2.1.1 ++ (if z.2.1 then x::z.2.2.1.2 else [])).length ((z.2.2.1.1 ++ (if z.2.1 then x::z.2.2.1.2 else [])).flatMap encB) z.2.2.2.2) (fun z=>[(7,int z.1),(6,.bool z.2.1),(5,z.2.2.2.1)]) (fun z=>[z.2.2.2.2]) (fun z=>l.length-z.1) pickZ ⟨by dsimp only; omega,by simp,by simp,by simp,fun _=>rfl,fun h=>by simp at h,OwnS.nil _ _⟩ covZ selZ ?_
 rintro ⟨k,dn,⟨A,B⟩,u,σ⟩ ⟨hk,hAB,hA,hB,hdn,hdt,hO⟩
 dsimp only at hk hAB hA hB hdn hdt hO ⊢
 have hABl:A.length+B.length=k:=by
  have:=congrArg List.length hAB
  rw [List.length_take,List.length_append] at this;omega
 by_cases hlt:k<l.length
 rotate_left
 ·have hke:k=l.length:=by omega
  rw [hke,List.take_length] at hAB
  cases dn with
  | true =>
   rw [if_pos rfl] at hO;refine Aci ?_;refine Aah ?_;refine Acw ?_;refine Aca ?_;exact AO (res1 rfl rfl) rsubZ selZ ⟨σ,⟨A,B,hAB,hA,hB,hO⟩,rfl⟩
  | false =>
   rw [if_neg (by simp),List.append_nil] at hO
   have hBe:=hdn rfl
   subst hBe;refine Aci ?_;refine Aah ?_;refine BN ?_;refine Aag ?_;refine Ade ?_;refine AV ?_;refine AZ ?_; rintro _ _ ⟨b,rfl,rfl⟩
   refine BH (BI (by_:=32) (s:=4) (news:=[int x.c,int x.a,int x.b,int x.k]) rfl rfl rfl rfl rfl rfl rfl hO takeZ (cells_own memZ) rfl oneZ (by omega) (by simp only [maxLen]; omega) (by omega)) rfl rfl rfl ?_
   rintro u1 _ ⟨σ1,hO1,rfl⟩;refine Abr ?_;refine Aaa ?_
   exact AO (res1 rfl rfl) rsubZ selZ ⟨σ1,⟨A,[],hAB,hA,hB,by rw [List.length_append,List.flatMap_append]; exact hO1⟩,rfl⟩
 have hy:=List.getElem?_eq_getElem hlt
 have htk:l.take (k+1)=l.take k ++ [l[k]]:=List.take_succ_eq_append_getElem hlt
 obtain ⟨b1,o1,rfl,hRd,g0,g1,g2,g3⟩:=bkRow hr hy
 generalize l[k]=y at hy htk hRd g0 g1 g2 g3
 rw [hAB] at htk
 cases dn with
 | true =>
  rw [if_pos rfl] at hO
  have hOl:(A ++ x::B).length=k+1:=by rw [List.length_append,List.length_cons]; omega
  refine Abo ?_;refine Acp ?_
  refine A6 P8Z [] rfl (by kernel_rfl) selZ ?_
  refine AI ?_;refine C8 ?_;refine Ac2 ?_;refine Acn ?_;refine Acn ?_;refine Abb ?_;refine Ag2 ?_;refine Ac8 ?_;refine Abm ?_;refine AZ ?_; rintro _ _ ⟨b,rfl,rfl⟩
  refine BH (BI (by_:=32) (s:=4) (news:=[int y.c,int y.a,int y.b,int y.k]) rfl rfl rfl rfl rfl rfl rfl hO takeZ (cells_own memZ) rfl oneZ (by omega) (by simp only [maxLen]; omega) (by omega)) rfl rfl rfl ?_
  rintro u1 _ ⟨σ1,hO1,rfl⟩;refine Adb ?_
  refine AT (k+1,true,(A,B ++ [y]),u1,σ1) ⟨by dsimp only; omega,by dsimp only; rw [htk,List.append_assoc],hA,fun w hw=>?_,fun h=>by simp at h,fun _=>by simp,?_⟩ (by dsimp only; omega) covZ selZ
  ·dsimp only at hw
   cases B with
   | nil =>
    exact absurd rfl (hdt rfl)
   | cons b0 B0 =>
    exact hB w (by simpa using hw)
  ·dsimp only
   rw [if_pos rfl,show A ++ x::(B ++ [y])=(A ++ x::B) ++ [y] by simp,List.length_append,List.flatMap_append]
   exact hO1
 | false =>
 rw [if_neg (by simp),List.append_nil] at hO
 have hBe:=hdn rfl
 subst hBe;rw [List.append_nil] at htk
 have hAl:A.length=k:=by rw [List.length_nil] at hABl; omega
 by_cases hgt:gtB y x
 ·by_cases t1:x.c<y.c
  ·refine AC ?_
   refine Aea ?_;refine Aa9 ?_;refine Acp ?_
   refine A6 P8Z [] rfl (by kernel_rfl) selZ ?_
   refine AI ?_;refine C8 ?_;refine Agw ?_;refine DY ?_;refine Ac2 ?_;refine Acn ?_;refine Aae ?_;refine BG ?_;refine Adg ?_;refine Aac ?_;refine AV ?_;refine AZ ?_; rintro _ _ ⟨b,rfl,rfl⟩
   refine BH (BI (by_:=32) (s:=4) (news:=[int x.c,int x.a,int x.b,int x.k]) rfl rfl rfl rfl rfl rfl rfl hO takeZ (cells_own memZ) rfl oneZ (by omega) (by simp only [maxLen]; omega) (by omega)) rfl rfl rfl ?_
   rintro u0 _ ⟨σ0,hO0,rfl⟩;refine Aaa ?_;refine AA ?_;refine Aaa ?_;refine Ac8 ?_;refine Abm ?_;refine AZ ?_; rintro _ _ ⟨b,rfl,rfl⟩
   refine BH (BI (by_:=32) (s:=4) (news:=[int y.c,int y.a,int y.b,int y.k]) rfl rfl rfl rfl rfl rfl rfl hO0 takeZ (cells_own memZ) rfl oneZ (by omega) (by simp only [maxLen]; omega) (by omega)) rfl rfl rfl ?_
   rintro u1 _ ⟨σ1,hO1,rfl⟩;refine Adb ?_
   refine AT (k+1,true,(A,[y]),u1,σ1) ⟨by dsimp only; omega,htk,hA,fun w hw=>?_,fun h=>by simp at h,fun _=>by simp,?_⟩ (by dsimp only; omega) covZ selZ
   ·dsimp only at hw
    simp at hw
    rw [← hw];exact hgt
   ·dsimp only
    rw [if_pos rfl,show A ++ x::[y]=(A ++ [x]) ++ [y] by simp,List.length_append,List.length_append,List.flatMap_append,List.flatMap_append]
    exact hO1
  ·have t2:y.c=x.c:=by unfold gtB at hgt; omega
   have t3:x.a<y.a:=by unfold gtB at hgt; omega
   refine Abo ?_;refine Acp ?_
   refine A6 P8Z [] rfl (by kernel_rfl) selZ ?_
   refine AI ?_;refine C8 ?_;refine Agw ?_;refine DL ?_;refine Agw ?_;refine Ag3 ?_;refine Aau ?_;refine DY ?_;refine BG ?_;refine BM ?_;refine Adg ?_;refine Aac ?_;refine AV ?_;refine AZ ?_; rintro _ _ ⟨b,rfl,rfl⟩
   refine BH (BI (by_:=32) (s:=4) (news:=[int x.c,int x.a,int x.b,int x.k]) rfl rfl rfl rfl rfl rfl rfl hO takeZ (cells_own memZ) rfl oneZ (by omega) (by simp only [maxLen]; omega) (by omega)) rfl rfl rfl ?_
   rintro u0 _ ⟨σ0,hO0,rfl⟩;refine Aaa ?_;refine AA ?_;refine Aaa ?_;refine Ac8 ?_;refine Abm ?_;refine AZ ?_; rintro _ _ ⟨b,rfl,rfl⟩
   refine BH (BI (by_:=32) (s:=4) (news:=[int y.c,int y.a,int y.b,int y.k]) rfl rfl rfl rfl rfl rfl rfl hO0 takeZ (cells_own memZ) rfl oneZ (by omega) (by simp only [maxLen]; omega) (by omega)) rfl rfl rfl ?_
   rintro u1 _ ⟨σ1,hO1,rfl⟩;refine Adb ?_
   refine AT (k+1,true,(A,[y]),u1,σ1) ⟨by dsimp only; omega,htk,hA,fun w hw=>?_,fun h=>by simp at h,fun _=>by simp,?_⟩ (by dsimp only; omega) covZ selZ
   ·dsimp only at hw
    simp at hw
    rw [← hw];exact hgt
   ·dsimp only
    rw [if_pos rfl,show A ++ x::[y]=(A ++ [x]) ++ [y] by simp,List.length_append,List.length_append,List.flatMap_append,List.flatMap_append]
    exact hO1
 ·have hnot:∀ w∈A ++ [y],¬ gtB w x:=fun w hw=>by
   rcases List.mem_append.1 hw with hw|hw
   ·exact hA w hw
   ·rw [List.mem_singleton] at hw
    rw [hw];exact hgt
  have t1:¬ x.c<y.c:=by unfold gtB at hgt; omega
  by_cases t2:y.c=x.c
  ·have t3:¬ x.a<y.a:=by unfold gtB at hgt; omega
   refine Abo ?_;refine Acp ?_
   refine A6 P8Z [] rfl (by kernel_rfl) selZ ?_
   refine AI ?_;refine C8 ?_;refine Agw ?_;refine DL ?_;refine Agw ?_;refine Ag3 ?_;refine Aau ?_;refine DL ?_;refine BG ?_;refine BM ?_;refine Agl ?_;refine Ac8 ?_;refine Abm ?_;refine AZ ?_; rintro _ _ ⟨b,rfl,rfl⟩
   refine BH (BI (by_:=32) (s:=4) (news:=[int y.c,int y.a,int y.b,int y.k]) rfl rfl rfl rfl rfl rfl rfl hO takeZ (cells_own memZ) rfl oneZ (by omega) (by simp only [maxLen]; omega) (by omega)) rfl rfl rfl ?_
   rintro u1 _ ⟨σ1,hO1,rfl⟩;refine Adb ?_
   refine AT (k+1,false,(A ++ [y],[]),u1,σ1) ⟨by dsimp only; omega,by dsimp only; rw [htk,List.append_nil],hnot,fun w hw=>by simp at hw,fun _=>rfl,fun h=>by simp at h,?_⟩ (by dsimp only; omega) covZ selZ
   dsimp only
   rw [if_neg (by simp),List.append_nil,List.length_append,List.flatMap_append]
   exact hO1
  ·refine AC ?_
   refine Aea ?_;refine Aa9 ?_;refine Acp ?_
   refine A6 P8Z [] rfl (by kernel_rfl) selZ ?_
   refine AI ?_;refine C8 ?_;refine Agw ?_;refine DL ?_;refine Agw ?_;refine C7 ?_;refine Ac2 ?_;refine BM ?_;refine BM ?_;refine Agl ?_;refine Ac8 ?_;refine Abm ?_;refine AZ ?_; rintro _ _ ⟨b,rfl,rfl⟩
   refine BH (BI (by_:=32) (s:=4) (news:=[int y.c,int y.a,int y.b,int y.k]) rfl rfl rfl rfl rfl rfl rfl hO takeZ (cells_own memZ) rfl oneZ (by omega) (by simp only [maxLen]; omega) (by omega)) rfl rfl rfl ?_
   rintro u1 _ ⟨σ1,hO1,rfl⟩;refine Adb ?_
   refine AT (k+1,false,(A ++ [y],[]),u1,σ1) ⟨by dsimp only; omega,by dsimp only; rw [htk,List.append_nil],hnot,fun w hw=>by simp at hw,fun _=>rfl,fun h=>by simp at h,?_⟩ (by dsimp only; omega) covZ selZ
   dsimp only
   rw [if_neg (by simp),List.append_nil,List.length_append,List.flatMap_append]
   exact hO1
theorem spL_step {f:List Lv} {k:Nat} {x:Lv} (h:f[k]?=some x):spL (f.take (k+2))=spL (f.take (k+1)) ++ (if 0<x.v∧k+1<f.length then [((x.a,(f.getD (k+1) ⟨0,0⟩).a),x.v)] else []):=by
 by_cases hk:k+1<f.length
 ·have h2:=List.getElem?_eq_getElem hk
  rw [spL_next h h2,List.getD_eq_getElem?_getD,h2,Option.getD_some]
  by_cases hv:0<x.v
  ·rw [if_pos hv,if_pos ⟨hv,hk⟩]
  ·rw [if_neg hv,if_neg (fun c=>hv c.1)]
 ·rw [if_neg (fun c=>hk c.2),List.append_nil,List.take_of_length_le (by omega),List.take_of_length_le (by omega)]
theorem filt_snoc (l:List (Int × Int)) (e:Int × Int):((l ++ [e]).filter (fun e=>decide (e.2≠0))).map (fun e=>e.1)=(l.filter (fun e=>decide (e.2≠0))).map (fun e=>e.1) ++ (if e.2≠0 then [e.1] else []):=by
 rw [List.filter_append,List.map_append]
 congr 1
 by_cases h:e.2=0 <;> simp [h]
theorem spL_short {f:List Lv} (h:f.length≤1):spL f=[]:=by
 match f,h with
 | [],_=>rfl
 | [x],_=>rfl
 | _::_::_,h=>simp at h
theorem nodup_len {a b:List Int} (hn:a.Nodup) (h:∀ x∈a,x∈b):a.length≤b.length:=by
 induction a generalizing b with
 | nil=>simp
 | cons x a ih =>
  obtain ⟨h1,h2⟩:=List.nodup_cons.1 hn
  have hx:=h x (by simp)
  have:=ih h2 (b:=b.erase x) (fun y hy=>(List.mem_erase_of_ne (fun e=>h1 (by rw [← e]; exact hy))).2 (h y (by simp [hy])))
  rw [List.length_erase_of_mem hx] at this
  have:=List.length_pos_of_mem hx
  simp only [List.length_cons];omega
theorem evE_len (cs:List Ct) (n:Int):∀ l:List Sh,(evE cs n l).length≤2*l.length
 | []=>by simp [evE]
 | x::l=>by
  have ih:=evE_len cs n l
  have e:evE cs n (x::l)=((if (ctOf cs x).f=n then [(x.t,-x.n)] else []) ++ (if (ctOf cs x).t=n then [(arrOf cs x,x.n)] else [])) ++ evE cs n l:=rfl
  rw [e,List.length_append,List.length_append,List.length_cons]
  have h1:(if (ctOf cs x).f=n then [(x.t,-x.n)] else []).length≤1:=by split <;> simp
  have h2:(if (ctOf cs x).t=n then [(arrOf cs x,x.n)] else []).length≤1:=by split <;> simp
  omega
theorem intervals_spec (cs:List Ct) (n:Int) (l:List Sh) (bm:Nat) (m:List (Int × Int)) (hE:EvM (evE cs n l) m) (hok:∀ x∈l,ShB cs x) (hll:l.length≤500000) :
  Eng.Spec Tryz.prog (fv 84) [.map (some bm)] [sng bm (mapO m)] [] (fun r H'=>∃ u1 u2 ok σ1 σ2,r=.tuple #[u1,u2,.bool ok]∧H'=[σ1,σ2]∧((ok=false∧∃ y∈lvN cs n l,y.v<0)∨(ok=true∧(∀ y∈lvN cs n l,0≤y.v)∧OwnS 152 2 u1 ((spL (lvN cs n l)).map (fun p=>p.1)).length (((spL (lvN cs n l)).map (fun p=>p.1)).flatMap encS) σ1∧OwnS 3 1 u2 ((spL (lvN cs n l)).map (fun p=>p.2)).length (((spL (lvN cs n l)).map (fun p=>p.2)).flatMap Eng.encI) σ2))):=by
 have hml:m.length≤2*l.length:=by
  have hnd:=hE.nd
  have hsub:∀ t∈m.map (·.1),t∈(evE cs n l).map (·.1):=fun t ht=>by
   obtain ⟨⟨a,b⟩,hab,e⟩:=List.mem_map.1 ht
   dsimp only at e
   subst e;exact ((hE.mem _ _).1 hab).1
  have h1:(m.map (·.1)).length≤((evE cs n l).map (·.1)).length:=nodup_len hnd hsub
  rw [List.length_map,List.length_map] at h1;exact Nat.le_trans h1 (evE_len cs n l)
 refine spec_in (cap:=[]) Tryz.func84 rfl rfl Tryz.ntmps84 rfl envZ (fun N β=>?_)
 refine Afv ?_;refine BZ ?_;refine Aa ?_;refine Acy ?_;refine Aff ?_;refine BH (HN (l:=m) rfl rfl (mapAt_rd memZ)) rfl rfl rfl ?_;rintro _ _ ⟨ri,rfl,rfl⟩;refine AE ?_;refine AM ?_
 refine BA [0,14] (X:=Array Nat × List (Int × Int) × Value × PH) (#[],[],.slice none 0 0,emp) (fun x=>Came m x.1 x.2.1∧OwnS 3 1 x.2.2.1 ((x.2.1.filter (fun e=>decide (e.2≠0))).map (fun e=>e.1)).length (((x.2.1.filter (fun e=>decide (e.2≠0))).map (fun e=>e.1)).flatMap Eng.encI) x.2.2.2) (fun x=>[(5,x.2.2.1)]) (fun x=>[sng ri (iterO bm m.length x.1),x.2.2.2,emp,emp]) (fun x=>m.length-x.1.size) pickZ ⟨Came.nil m,OwnS.nil _ _⟩ covZ selZ ?_
 rintro ⟨seen,done,u,σ⟩ ⟨hC,hO⟩
 dsimp only at hC hO ⊢
 have hlen:=hC.len
 have hfl:((done.filter (fun e=>decide (e.2≠0))).map (fun e=>e.1)).length≤done.length:=by rw [List.length_map]; exact List.length_filter_le _ _
 have hfl2:(done.filter (fun e=>decide (e.2≠0))).length≤done.length:=List.length_filter_le _ _
 refine Aa ?_;refine BH (l_next (l:=m) rfl (mapAt_rd memZ) takeZ) rfl rfl rfl ?_;rintro _ _ (⟨hall,rfl,rfl⟩|⟨i,hi,hni,rfl,rfl⟩)
 rotate_left
 ·have hC2:=hC.push hi hni
  have hfs:=filt_snoc done m[i]
  have hl2:=hC2.len
  rw [Array.size_push] at hl2;refine AP ?_;refine Aa6 ?_;refine Ae8 ?_;refine Aa ?_;refine CW (HO (l:=m) (seen:=seen) rfl (mapAt_rd memZ) memZ hi) rfl rfl rfl ?_
  generalize m[i]=e at hC2 hfs
  obtain ⟨ea,ev⟩:=e
  dsimp only at hfs
  by_cases h0:ev=0
  ·rw [if_neg (fun h=>h h0),List.append_nil] at hfs
   refine Ahj ?_;refine Aac ?_;refine Abh ?_;refine A2 ?_
   exact AT (seen.push i,done ++ [(ea,ev)],u,σ) ⟨hC2,by dsimp only; rw [hfs]; exact hO⟩ (by dsimp only; rw [Array.size_push]; omega) covZ selZ
  ·rw [if_pos h0] at hfs
   refine Ahj ?_;refine Aac ?_;refine Afx ?_;refine Ac3 ?_;refine AZ ?_; rintro _ _ ⟨b,rfl,rfl⟩
   refine BH (BI (by_:=8) (s:=1) (news:=[int ea]) rfl rfl rfl rfl rfl rfl rfl hO takeZ (cells_own memZ) rfl oneZ (by omega) (by simp only [maxLen,List.length_map]; omega) (by simp only [List.length_map]; omega)) rfl rfl rfl ?_
   rintro u1 _ ⟨σ1,hO1,rfl⟩;refine Aaa ?_;refine A2 ?_
   refine AT (seen.push i,done ++ [(ea,ev)],u1,σ1) ⟨hC2,?_⟩ (by dsimp only; rw [Array.size_push]; omega) covZ selZ
   dsimp only
   rw [hfs,List.length_append,List.flatMap_append];exact hO1
 have hperm:=hC.all hall
 obtain ⟨t1,t2⟩:=hE.times hperm
 have hT:=lvN_times t1 (fun t=>by rw [t2 t,evE_at])
 refine AP ?_;refine Abu ?_;refine Aac ?_
 refine BL (sortI_spec σ _ _ hO (by omega)) rfl rfl takesZ (fun τ hτ=>by simp at hτ) rfl rfl ?_
 rintro _ _ ⟨rfl,σs,hOs,rfl⟩;rw [← hT] at hOs
 have hIs:IntsAt σs u ((lvN cs n l).map (fun x=>x.a)):=hOs.at
 obtain ⟨pT,kT,rfl⟩:=hOs.form
 have hrs:=rowN Eng.encI_len hIs
 have hll2:=lvN_len cs n l
 refine AW (ρ:=σs) takeZ ?_
 have hvb:∀ y∈lvN cs n l,-1000000000≤y.v∧y.v≤1000000000:=fun y hy=>by
  have h1:=(((lvN_ok cs n l).2.1 y).1 hy).1
  have h2:=haveS_bd cs n y.a l (fun z hz=>(hok z hz).n)
  omega
 have hml0:(List.map (fun x=>x.a) (lvN cs n l)).length=(lvN cs n l).length:=List.length_map _
 rw [hml0];refine AE ?_;refine Aai ?_;refine Agn ?_
 refine BA [0,5,28,29] (X:=Nat × (Value × PH) × (Value × PH)) (0,(.slice none 0 0,emp),(.slice none 0 0,emp)) (fun x=>x.1≤(lvN cs n l).length∧(∀ y∈(lvN cs n l).take x.1,0≤y.v)∧OwnS 152 2 x.2.1.1 ((spL ((lvN cs n l).take (x.1+1))).map (fun p=>p.1)).length (((spL ((lvN cs n l).take (x.1+1))).map (fun p=>p.1)).flatMap encS) x.2.1.2∧OwnS 3 1 x.2.2.1 ((spL ((lvN cs n l).take (x.1+1))).map (fun p=>p.2)).length (((spL ((lvN cs n l).take (x.1+1))).map (fun p=>p.2)).flatMap Eng.encI) x.2.2.2) (fun x=>[(30,int x.1),(10,int (if x.1=0 then 0 else ((lvN cs n l).getD (x.1-1) ⟨0,0⟩).v)),(8,x.2.1.1),(9,x.2.2.1)]) (fun x=>[x.2.1.2,x.2.2.2]) (fun x=>(lvN cs n l).length-x.1) pickZ ⟨by dsimp only; omega,by simp,by dsimp only; rw [spL_short (by rw [List.length_take]; omega)]; exact OwnS.nil _ _,by dsimp only; rw [spL_short (by rw [List.length_take]; omega)]; exact OwnS.nil _ _⟩ covZ selZ ?_
 rintro ⟨k,⟨u1,σ1⟩,⟨u2,σ2⟩⟩ ⟨hk,hnn,hO1,hO2⟩
 dsimp only at hk hnn hO1 hO2 ⊢
 by_cases hlt:k<(lvN cs n l).length
 rotate_left
 ·have hke:k=(lvN cs n l).length:=by omega
  rw [List.take_of_length_le (by omega)] at hO1 hO2 hnn
  refine Acd ?_;refine Aay ?_;refine Acy ?_;exact AO (res3 rfl rfl rfl rfl) rsubZ selZ ⟨_,_,true,σ1,σ2,rfl,rfl,.inr ⟨rfl,hnn,hO1,hO2⟩⟩
 have hx:=List.getElem?_eq_getElem hlt
 have hstp:=lvN_step hx
 have hsps:=spL_step hx
 have hxm:=List.getElem_mem hlt
 have hxv:=hvb _ hxm
 have hta:(lvN cs n l).take (k+1)=(lvN cs n l).take k ++ [(lvN cs n l)[k]]:=List.take_succ_eq_append_getElem hlt
 have hpv:-1000000000≤(if k=0 then 0 else ((lvN cs n l).getD (k-1) ⟨0,0⟩).v)∧(if k=0 then 0 else ((lvN cs n l).getD (k-1) ⟨0,0⟩).v)≤1000000000:=by
  split
  ·omega
  ·have hk1:k-1<(lvN cs n l).length:=by omega
   rw [List.getD_eq_getElem?_getD,List.getElem?_eq_getElem hk1];exact hvb _ (List.getElem_mem hk1)
 have hnx:(if k+1=0 then (0:Int) else ((lvN cs n l).getD (k+1-1) ⟨0,0⟩).v)=(lvN cs n l)[k].v:=by
  rw [if_neg (by omega),Nat.add_sub_cancel,List.getD_eq_getElem?_getD,hx]
  rfl
 have hsl1:=spL_len ((lvN cs n l).take (k+1))
 rw [List.length_take] at hsl1
 obtain ⟨b3,o3,rfl,g3⟩:=hrs.int (show ((lvN cs n l).map (fun x=>x.a))[k]?=some (lvN cs n l)[k].a by rw [List.getElem?_map,hx]; rfl)
 have g4:k+1<(lvN cs n l).length→rdc σs b3 (o3+(k+1))=some (int ((lvN cs n l).getD (k+1) ⟨0,0⟩).a):=fun h=>by
  have h2:=List.getElem?_eq_getElem h
  obtain ⟨b4,o4,e,g⟩:=hrs.int (show ((lvN cs n l).map (fun x=>x.a))[k+1]?=some (lvN cs n l)[k+1].a by rw [List.getElem?_map,h2]; rfl)
  simp only [Option.some.injEq,Addr.mk.injEq,and_true] at e
  obtain ⟨rfl,rfl⟩:=e
  rw [List.getD_eq_getElem?_getD,h2];exact g
 generalize (lvN cs n l).getD (k+1) ⟨0,0⟩=z at hsps g4
 obtain ⟨za,zv⟩:=z
 dsimp only at hsps g4
 generalize (if k=0 then 0 else ((lvN cs n l).getD (k-1) ⟨0,0⟩).v)=pv at hstp hpv
 generalize (lvN cs n l)[k]=x at hx hstp hsps hxm hxv hta hnx g3
 obtain ⟨xa,xv⟩:=x
 dsimp only at hstp hsps hxv hnx g3
 have hgx:=hE.get xa
 rw [evE_at,show chgS cs n xa l=xv-pv by omega] at hgx
 refine Ac6 ?_;refine Acb ?_;refine Aal ?_;refine Aev ?_;refine CW (DH (k:=xa) (l:=m) rfl rfl rfl rfl rfl (mapAt_rd memZ)) rfl rfl rfl ?_;rw [hgx];refine Adv ?_;refine Aah ?_
 rw [show pv+(xv-pv)=xv by omega]
 by_cases hneg:xv<0
 ·refine BD ?_
  refine Acg ?_;refine Acy ?_;exact AO (res3 rfl rfl rfl rfl) rsubZ selZ ⟨_,_,false,σ1,σ2,rfl,rfl,.inl ⟨rfl,_,hxm,hneg⟩⟩
 have hnn2:∀ y∈(lvN cs n l).take (k+1),0≤y.v:=fun y hy=>by
  rw [hta] at hy
  rcases List.mem_append.1 hy with hy|hy
  ·exact hnn y hy
  ·rw [List.mem_singleton] at hy
   rw [hy]
   show (0:Int)≤xv
   omega
 by_cases hpos:0<xv
 ·by_cases hk1:k+1<(lvN cs n l).length
  ·rw [if_pos ⟨hpos,hk1⟩] at hsps
   have g5:=g4 hk1
   refine Aeb ?_;refine Aac ?_;refine CT ?_;refine Aao ?_;refine A9 ?_;refine Ada ?_;refine BD ?_;refine Aez ?_;refine Ac3 ?_;refine Aao ?_;refine A9 ?_;refine Acb ?_;refine BY ?_;refine AZ ?_; rintro _ _ ⟨b,rfl,rfl⟩
   refine BH (BI (by_:=16) (s:=2) (news:=[int xa,int za]) rfl rfl rfl rfl rfl rfl rfl hO1 takeZ (cells_own memZ) rfl oneZ (by omega) (by simp only [maxLen,List.length_map]; omega) (by simp only [List.length_map]; omega)) rfl rfl rfl ?_
   rintro u3 _ ⟨σ3,hO3,rfl⟩;refine Aao ?_;refine AZ ?_; rintro _ _ ⟨b,rfl,rfl⟩
   refine BH (BI (by_:=8) (s:=1) (news:=[int xv]) rfl rfl rfl rfl rfl rfl rfl hO2 takeZ (cells_own memZ) rfl oneZ (by omega) (by simp only [maxLen,List.length_map]; omega) (by simp only [List.length_map]; omega)) rfl rfl rfl ?_
   rintro u4 _ ⟨σ4,hO4,rfl⟩;refine Aal ?_;refine Abf ?_
   refine AT (k+1,(u3,σ3),(u4,σ4)) ⟨by dsimp only; omega,hnn2,?_,?_⟩ (by dsimp only; omega) ?_ selZ
   ·dsimp only
    rw [hsps,List.map_append,List.length_append,List.flatMap_append];exact hO3
   ·dsimp only
    rw [hsps,List.map_append,List.length_append,List.flatMap_append];exact hO4
   ·dsimp only
    rw [hnx];exact covZ
  ·rw [if_neg (fun c=>hk1 c.2),List.append_nil] at hsps
   refine Aeb ?_;refine Aac ?_;refine CT ?_;refine Aao ?_;refine A9 ?_;refine Ada ?_;refine A0 ?_;refine Aem ?_;refine Abf ?_
   refine AT (k+1,(u1,σ1),(u2,σ2)) ⟨by dsimp only; omega,hnn2,by dsimp only; rw [hsps]; exact hO1,by dsimp only; rw [hsps]; exact hO2⟩ (by dsimp only; omega) ?_ selZ
   dsimp only
   rw [hnx];exact covZ
 ·rw [if_neg (fun c=>hpos c.1),List.append_nil] at hsps
  refine Aeb ?_;refine Aac ?_;refine B7 ?_;refine Aa4 ?_;refine Ad7 ?_;refine Abf ?_
  refine AT (k+1,(u1,σ1),(u2,σ2)) ⟨by dsimp only; omega,hnn2,by dsimp only; rw [hsps]; exact hO1,by dsimp only; rw [hsps]; exact hO2⟩ (by dsimp only; omega) ?_ selZ
  dsimp only
  rw [hnx];exact covZ
theorem one_Bk (x:Bk):∀ u∈encB x,u.oneCell'=true:=by
 intro u hu
 simp only [encB,List.mem_cons,List.not_mem_nil,or_false] at hu
 rcases hu with rfl|rfl|rfl|rfl <;> rfl
theorem ones_Bk (l:List Bk):∀ u∈l.flatMap encB,u.oneCell'=true:=by
 intro u hu
 rw [List.mem_flatMap] at hu
 obtain ⟨a,_,hu⟩:=hu
 exact one_Bk a u hu
theorem growBk_spec (n:Nat) (hn:n≤100000000):Makes Tryz.prog (fv 85) [.slice none 0 0,int n] [] (fun r σ=>OwnS 95 4 r 0 [] σ):=by
 refine spec_in (cap:=[]) Tryz.func85 rfl rfl Tryz.ntmps85 rfl envZ (fun N β=>?_)
 rcases Nat.eq_zero_or_pos n with h0|h0
 ·subst h0
  refine BZ ?_;refine Aff ?_;refine Aeb ?_;refine Aav ?_;refine EY ?_;refine Ada ?_;refine CP ?_;refine CP ?_;refine Abr ?_;refine Af ?_;refine Aca ?_;exact AO (res1 rfl rfl) rsubZ selZ ⟨emp,OwnS.nil _ _,rfl⟩
 ·have e0:(n:Int)-(((0:Nat):Int)-((0:Nat):Int))=(n:Int):=by omega
  refine Aff ?_;refine Aeb ?_;refine Aav ?_;refine EY ?_;refine Ada ?_;refine CP ?_;refine CP ?_;refine Abr ?_;refine CT ?_;refine Aag ?_;refine Ac3 ?_;refine EY ?_;refine E7 ?_;refine AB ?_
  focus ((rw [e0]))
  refine BH (FH (n:=n) (by_:=32) (s:=4) rfl rfl rfl rfl rfl rfl rfl rfl (by decide) h0 (by simp only [maxLen]; omega) (by omega)) rfl rfl rfl ?_
  rintro _ _ ⟨b,cap,cur,rfl,rfl,h1,h2,h3⟩
  have hcz:=cutP_zero b cap 4
  refine CW (FA rfl) rfl rfl rfl ?_;refine CW (GM rfl rfl) rfl rfl rfl ?_
  refine CW (E6 (i:=0) (s:=4) rfl rfl rfl rfl (by omega)) rfl rfl rfl ?_
  rw [hcz];refine Abr ?_;refine Aaa ?_;exact AO (res1 rfl rfl) rsubZ selZ ⟨_,OwnS.room h2 h3,rfl⟩
theorem concatBk_spec (τ:PH) (Rs:List PH) (v:Value) (vs:List Value) (ls:List (List Bk)) (hv:SlE encW 1 τ v vs) (hlen:vs.length=ls.length) (hall:∀ (i:Nat) (w:Value) (l:List Bk),vs[i]?=some w→ls[i]?=some l→∃ σ∈Rs,SlE encB 4 σ w l) (hk:vs.length≤1000) (ht:totL ls≤1000000) :
  Makes Tryz.prog (fv 36) [v] (τ::Rs) (fun r σ=>OwnS 95 4 r ls.flatten.length (ls.flatten.flatMap encB) σ):=by
 obtain ⟨q,c,rfl,hr⟩:=hv.val encW_len
 refine spec_in (cap:=[]) Tryz.func36 rfl rfl Tryz.ntmps36 rfl envZ (fun N β=>?_)
 refine Agn ?_
 refine BA [0,9,10] (0:Nat) (fun k=>k≤vs.length) (fun k=>[(11,int k),(3,int ((totL (ls.take k):Nat):Int))]) (fun _=>[]) (fun k=>vs.length-k) pickZ (by omega) ⟨rfl,rfl,trivial⟩ selZ ?_
 rintro k hkk
 by_cases hlt:k<vs.length
 ·obtain ⟨w,hw⟩:∃ w,vs[k]?=some w:=⟨_,List.getElem?_eq_getElem hlt⟩
  obtain ⟨l,hl⟩:∃ l,ls[k]?=some l:=⟨_,List.getElem?_eq_getElem (by omega)⟩
  obtain ⟨σ,hσ,hS⟩:=hall k w l hw hl
  obtain ⟨p2,c2,rfl,_⟩:=hS.val encB_len
  obtain ⟨b1,o1,rfl,hrd⟩:=hr k _ hw
  have g0:rdc τ b1 (o1+k)=some (.slice p2 l.length c2):=by have:=hrd.get0; rwa [Nat.mul_one] at this
  have hst:=totL_take ls k l hl
  have hle:=totL_le ls (k+1)
  have hsum:((totL (ls.take k):Nat):Int)+(l.length:Int)=((totL (ls.take (k+1)):Nat):Int):=by omega
  refine Aed ?_;refine Aaa ?_;refine Aea ?_;refine CB ?_;refine Abr ?_;refine Aeb ?_;refine Abf ?_
  focus ((rw [hsum]))
  exact AT (k+1) (by omega) (by omega) covZ selZ
 ·have hkl:k=vs.length:=by omega
  subst hkl
  rw [List.take_of_length_le (by omega)]
  refine Acd ?_;refine Aac ?_
  refine BV (growBk_spec (totL ls) (by omega)) rfl rfl rdZ rfl rfl ?_
  rintro u0 σ0 hO0;refine Af2 ?_
  refine BA [25,26] (X:=Nat × (Value × PH)) (0,(u0,σ0)) (fun x=>x.1≤vs.length∧OwnS 95 4 x.2.1 (ls.take x.1).flatten.length ((ls.take x.1).flatten.flatMap encB) x.2.2) (fun x=>[(27,int x.1),(6,x.2.1)]) (fun x=>[x.2.2]) (fun x=>vs.length-x.1) pickZ ⟨by dsimp only; omega,by simpa using hO0⟩ covZ selZ ?_
  rintro ⟨k,⟨u,σ1⟩⟩ ⟨hk2,hO⟩
  dsimp only at hk2 hO ⊢
  by_cases hlt2:k<vs.length
  ·obtain ⟨w,hw⟩:∃ w,vs[k]?=some w:=⟨_,List.getElem?_eq_getElem hlt2⟩
   obtain ⟨l,hl⟩:∃ l,ls[k]?=some l:=⟨_,List.getElem?_eq_getElem (by omega)⟩
   obtain ⟨σ,hσ,hS⟩:=hall k w l hw hl
   have hS2:=hS
   obtain ⟨p2,c2,rfl,_⟩:=hS.val encB_len
   obtain ⟨b1,o1,rfl,hrd⟩:=hr k _ hw
   have g0:rdc τ b1 (o1+k)=some (.slice p2 l.length c2):=by have:=hrd.get0; rwa [Nat.mul_one] at this
   have hst:=totL_take ls k l hl
   have hle:=totL_le ls (k+1)
   have hfl:=totL_flat (ls.take k)
   refine Aed ?_;refine Ahg ?_
   refine BH (C4 (by_:=32) (s:=4) (σ:=σ) (news:=l.flatMap encB) (m:=l.length) rfl rfl rfl rfl rfl rfl rfl hO takeZ hS2 (fun b o h=>cells_of_mem (List.mem_cons_of_mem _ (List.mem_cons_of_mem _ hσ)) h) (ones_Bk l) (by simp only [maxLen]; omega) (by omega)) rfl rfl rfl ?_
   rintro u1 _ ⟨σ2,hO2,rfl⟩;refine Af4 ?_
   refine AT (k+1,(u1,σ2)) ⟨by dsimp only; omega,?_⟩ (by dsimp only; omega) covZ selZ
   dsimp only
   rw [flat_succ ls k l hl,List.length_append,List.flatMap_append];exact hO2
  ·have hkl:k=vs.length:=by omega
   subst hkl
   rw [List.take_of_length_le (by omega)] at hO
   refine Ago ?_;exact AO (res1 rfl rfl) rsubZ selZ ⟨σ1,hO,rfl⟩
theorem one_Hd (x:Hd):∀ u∈encH x,u.oneCell'=true:=by
 intro u hu
 simp only [encH,List.mem_cons,List.not_mem_nil,or_false] at hu
 rcases hu with rfl|rfl|rfl|rfl|rfl <;> rfl
theorem ones_Hd (l:List Hd):∀ u∈l.flatMap encH,u.oneCell'=true:=by
 intro u hu
 rw [List.mem_flatMap] at hu
 obtain ⟨a,_,hu⟩:=hu
 exact one_Hd a u hu
theorem growHd_spec (n:Nat) (hn:n≤100000000):Makes Tryz.prog (fv 90) [.slice none 0 0,int n] [] (fun r σ=>OwnS 99 5 r 0 [] σ):=by
 refine spec_in (cap:=[]) Tryz.func90 rfl rfl Tryz.ntmps90 rfl envZ (fun N β=>?_)
 rcases Nat.eq_zero_or_pos n with h0|h0
 ·subst h0
  refine BZ ?_;refine Aff ?_;refine Aeb ?_;refine Aav ?_;refine EY ?_;refine Ada ?_;refine CP ?_;refine CP ?_;refine Abr ?_;refine Af ?_;refine Aca ?_;exact AO (res1 rfl rfl) rsubZ selZ ⟨emp,OwnS.nil _ _,rfl⟩
 ·have e0:(n:Int)-(((0:Nat):Int)-((0:Nat):Int))=(n:Int):=by omega
  refine Aff ?_;refine Aeb ?_;refine Aav ?_;refine EY ?_;refine Ada ?_;refine CP ?_;refine CP ?_;refine Abr ?_;refine CT ?_;refine Aag ?_;refine Ac3 ?_;refine EY ?_;refine E7 ?_;refine AB ?_
  focus ((rw [e0]))
  refine BH (FH (n:=n) (by_:=40) (s:=5) rfl rfl rfl rfl rfl rfl rfl rfl (by decide) h0 (by simp only [maxLen]; omega) (by omega)) rfl rfl rfl ?_
  rintro _ _ ⟨b,cap,cur,rfl,rfl,h1,h2,h3⟩
  have hcz:=cutP_zero b cap 5
  refine CW (FA rfl) rfl rfl rfl ?_;refine CW (GM rfl rfl) rfl rfl rfl ?_
  refine CW (E6 (i:=0) (s:=5) rfl rfl rfl rfl (by omega)) rfl rfl rfl ?_
  rw [hcz];refine Abr ?_;refine Aaa ?_;exact AO (res1 rfl rfl) rsubZ selZ ⟨_,OwnS.room h2 h3,rfl⟩
theorem concatHd_spec (τ:PH) (Rs:List PH) (v:Value) (vs:List Value) (ls:List (List Hd)) (hv:SlE encW 1 τ v vs) (hlen:vs.length=ls.length) (hall:∀ (i:Nat) (w:Value) (l:List Hd),vs[i]?=some w→ls[i]?=some l→∃ σ∈Rs,SlE encH 5 σ w l) (hk:vs.length≤1000) (ht:totL ls≤1000000) :
  Makes Tryz.prog (fv 38) [v] (τ::Rs) (fun r σ=>OwnS 99 5 r ls.flatten.length (ls.flatten.flatMap encH) σ):=by
 obtain ⟨q,c,rfl,hr⟩:=hv.val encW_len
 refine spec_in (cap:=[]) Tryz.func38 rfl rfl Tryz.ntmps38 rfl envZ (fun N β=>?_)
 refine Agn ?_
 refine BA [0,9,10] (0:Nat) (fun k=>k≤vs.length) (fun k=>[(11,int k),(3,int ((totL (ls.take k):Nat):Int))]) (fun _=>[]) (fun k=>vs.length-k) pickZ (by omega) ⟨rfl,rfl,trivial⟩ selZ ?_
 rintro k hkk
 by_cases hlt:k<vs.length
 ·obtain ⟨w,hw⟩:∃ w,vs[k]?=some w:=⟨_,List.getElem?_eq_getElem hlt⟩
  obtain ⟨l,hl⟩:∃ l,ls[k]?=some l:=⟨_,List.getElem?_eq_getElem (by omega)⟩
  obtain ⟨σ,hσ,hS⟩:=hall k w l hw hl
  obtain ⟨p2,c2,rfl,_⟩:=hS.val encH_len
  obtain ⟨b1,o1,rfl,hrd⟩:=hr k _ hw
  have g0:rdc τ b1 (o1+k)=some (.slice p2 l.length c2):=by have:=hrd.get0; rwa [Nat.mul_one] at this
  have hst:=totL_take ls k l hl
  have hle:=totL_le ls (k+1)
  have hsum:((totL (ls.take k):Nat):Int)+(l.length:Int)=((totL (ls.take (k+1)):Nat):Int):=by omega
  refine Aed ?_;refine Aaa ?_;refine Aea ?_;refine CB ?_;refine Abr ?_;refine Aeb ?_;refine Abf ?_
  focus ((rw [hsum]))
  exact AT (k+1) (by omega) (by omega) covZ selZ
 ·have hkl:k=vs.length:=by omega
  subst hkl
  rw [List.take_of_length_le (by omega)]
  refine Acd ?_;refine Aac ?_
  refine BV (growHd_spec (totL ls) (by omega)) rfl rfl rdZ rfl rfl ?_
  rintro u0 σ0 hO0;refine Af2 ?_
  refine BA [25,26] (X:=Nat × (Value × PH)) (0,(u0,σ0)) (fun x=>x.1≤vs.length∧OwnS 99 5 x.2.1 (ls.take x.1).flatten.length ((ls.take x.1).flatten.flatMap encH) x.2.2) (fun x=>[(27,int x.1),(6,x.2.1)]) (fun x=>[x.2.2]) (fun x=>vs.length-x.1) pickZ ⟨by dsimp only; omega,by simpa using hO0⟩ covZ selZ ?_
  rintro ⟨k,⟨u,σ1⟩⟩ ⟨hk2,hO⟩
  dsimp only at hk2 hO ⊢
  by_cases hlt2:k<vs.length
  ·obtain ⟨w,hw⟩:∃ w,vs[k]?=some w:=⟨_,List.getElem?_eq_getElem hlt2⟩
   obtain ⟨l,hl⟩:∃ l,ls[k]?=some l:=⟨_,List.getElem?_eq_getElem (by omega)⟩
   obtain ⟨σ,hσ,hS⟩:=hall k w l hw hl
   have hS2:=hS
   obtain ⟨p2,c2,rfl,_⟩:=hS.val encH_len
   obtain ⟨b1,o1,rfl,hrd⟩:=hr k _ hw
   have g0:rdc τ b1 (o1+k)=some (.slice p2 l.length c2):=by have:=hrd.get0; rwa [Nat.mul_one] at this
   have hst:=totL_take ls k l hl
   have hle:=totL_le ls (k+1)
   have hfl:=totL_flat (ls.take k)
   refine Aed ?_;refine Ahg ?_
   refine BH (C4 (by_:=40) (s:=5) (σ:=σ) (news:=l.flatMap encH) (m:=l.length) rfl rfl rfl rfl rfl rfl rfl hO takeZ hS2 (fun b o h=>cells_of_mem (List.mem_cons_of_mem _ (List.mem_cons_of_mem _ hσ)) h) (ones_Hd l) (by simp only [maxLen]; omega) (by omega)) rfl rfl rfl ?_
   rintro u1 _ ⟨σ2,hO2,rfl⟩;refine Af4 ?_
   refine AT (k+1,(u1,σ2)) ⟨by dsimp only; omega,?_⟩ (by dsimp only; omega) covZ selZ
   dsimp only
   rw [flat_succ ls k l hl,List.length_append,List.flatMap_append];exact hO2
  ·have hkl:k=vs.length:=by omega
   subst hkl
   rw [List.take_of_length_le (by omega)] at hO
   refine Ago ?_;exact AO (res1 rfl rfl) rsubZ selZ ⟨σ1,hO,rfl⟩
end Go.Proofs.YtjehnjhkcmobcaaGreat
namespace Go.Eng
open Go.Sort
open Go.Proofs (sortWorldK)
theorem upd_grow {w w' : World} (u : Upd [] [] w w') : ∃ q os, w' = grow (w.drewN q) os := by
  obtain ⟨⟨a1, a2, a3, a4, a5⟩, hk, _⟩ := u
  refine ⟨w'.drawn - w.drawn, w'.heap.extract w.heap.size w'.heap.size, ?_⟩
  have hh : w'.heap = w.heap ++ w'.heap.extract w.heap.size w'.heap.size := by
    apply Array.ext_getElem?
    intro i
    by_cases hi : i < w.heap.size
    · rw [Array.getElem?_append_left hi]
      exact hk i hi (by simp)
    · rw [Array.getElem?_append_right (by omega), Array.getElem?_extract]
      split
      · rw [show w.heap.size + (i - w.heap.size) = i by omega]
      · rw [Array.getElem?_eq_none (by omega)]
  obtain ⟨h1, t1, d1, o1, p1⟩ := w
  obtain ⟨h2, t2, d2, o2, p2⟩ := w'
  dsimp only at *
  subst a2 a3 a4;unfold grow World.drewN;simp only [World.mk.injEq, and_true, true_and]
  exact ⟨hh, by omega⟩
theorem calls_of {P : Program} {g : FuncId} {gn : Func} {c : Code} {args : List Value} {W : World} {v : Value} (hf : P.funcs[g]? = some gn) (hb : gn.body = some c) (hname : (gn.name == "runtime.NumGoroutine") = false)
    (hs : Ans P (fv g) args [] (fun r => r = v)) : Calls P g args.toArray W (fun e W' => e = .returned v ∧ ∃ q os, W' = grow (W.drewN q) os) := by
  have h := hs (Bs.of W) W ⟨⟨Nat.le_refl _, rfl, rfl, rfl, Nat.le_refl _⟩, by simp, by simp, List.Pairwise.nil, by simp⟩
  unfold CallsV at h
  have hrun : ((do let d ← Deferred.ofValue (fv g) args.toArray; invoke d.target d.args : Sem Next).run P W) = .ok (.enter g args.toArray) W := by
    have hname' : ¬ gn.name = "runtime.NumGoroutine" := by simpa using hname
    simp [Deferred.ofValue, invoke, callFunc, program, Sem.run, bind, Sem.bind, pure, hf, hb, hname']
  rw [hrun] at h;refine callsIn_wide.1 (CallsIn.mono h ?_);rintro e W' ⟨r, rfl, H', ⟨rfl, rfl⟩, hu⟩;exact ⟨rfl, upd_grow hu⟩
theorem flatK_list {α : Type} [Inhabited α] {enc : α → List Value} {k : Nat} (hk : ∀ x, (enc x).length = k) (l : List α) : flatK enc k l.toArray = (l.flatMap enc).toArray := by
  have hsz : (flatK enc k l.toArray).size = (l.flatMap enc).length := by rw [size_flatK, flat_len hk]; simp
  apply Array.ext
  · simpa using hsz
  intro t h1 h2
  have ht : t < l.length * k := by rw [size_flatK] at h1; simpa using h1
  have k0 : 0 < k := by
    rcases Nat.eq_zero_or_pos k with h | h
    · subst h; simp at ht
    · exact h
  have hj : t / k < l.length := Nat.div_lt_of_lt_mul (by rw [Nat.mul_comm]; exact ht)
  have hg := get_flatK enc k l.toArray t (by simpa using ht)
  rw [getElem!_pos _ t h1] at hg;rw [hg]
  have e1 : l.toArray[t / k]! = l[t / k] := by rw [getElem!_pos _ _ (by simpa using hj)]; simp
  have hm : t % k < (enc l[t / k]).length := by rw [hk]; exact Nat.mod_lt _ k0
  rw [e1, getElem!_pos (enc l[t / k]) (t % k) hm]
  have hf := flat_get hk l (t / k) _ (List.getElem?_eq_getElem hj) (t % k) _ (List.getElem?_eq_getElem hm)
  rw [show t / k * k + t % k = t by rw [Nat.mul_comm]; exact Nat.div_add_mod t k] at hf
  have h3 : t < (l.flatMap enc).length := by simpa using h2
  rw [List.getElem?_eq_getElem h3] at hf;rw [← Option.some.inj hf]
  simp
theorem take_putCellsF (cur : Array Value) (F : List Value) (h : F.length ≤ cur.size) : (putCells id 0 F.toArray cur).toList.take F.length = F := by
  apply List.ext_getElem?
  intro j
  by_cases hj : j < F.length
  · rw [List.getElem?_take_of_lt hj, Array.getElem?_toList]
    simp [putCells, hj, show j < cur.size by omega]
  · rw [List.getElem?_take_eq_none (by omega), List.getElem?_eq_none (by omega)]
theorem sortF_of {α : Type} [Inhabited α] {P : Program} {f g : FuncId} {fn gn : Func} {c cg : Code} {enc : α → List Value} {k : Nat} {cf : α → α → Int} (hf : P.funcs[f]? = some fn) (hb : fn.body = some c) (hname : (fn.name == "runtime.NumGoroutine") = false)
    (hgf : P.funcs[g]? = some gn) (hgb : gn.body = some cg) (hgn : (gn.name == "runtime.NumGoroutine") = false) (hk : ∀ x, (enc x).length = k)
    (hany : ∀ (blk cap : Nat) (d : Array α) (w : World), Go.Proofs.CmpLays P g #[] enc k cf blk 0 d.size w → HoldsK enc k w blk 0 d → blk < w.heap.size → d.size < 4611686018427387904 →
      Calls P f #[.slice (some ⟨blk, 0, none⟩) d.size cap, fv g] w (fun e w' => e = .returned (.tuple #[]) ∧ ∃ d' n os, PermIn 0 d.size d d' ∧ SortedIn (Go.Proofs.ltOf cf) 0 d.size d' ∧ w' = sortWorldK enc k w blk 0 n d' os))
    (hnone : ∀ (p : Option Addr) (cap : Nat) (w : World), Calls P f #[.slice p 0 cap, fv g] w (fun e w' => e = .returned (.tuple #[]) ∧ w' = w))
    (hc : ∀ x y, Ans P (fv g) [.agg (enc x).toArray, .agg (enc y).toArray] [] (fun r => r = int (cf x y)))
    {e : TypeId} {σ : PH} {v : Value} {l : List α} (hO : OwnS e k v l.length (l.flatMap enc) σ) (hl : l.length < 4611686018427387904) :
    Spec P (fv f) [v, fv g] [] [σ] (fun r H' => r = .tuple #[] ∧ ∃ (m : List α) (σ' : PH), m.Perm l ∧ m.Pairwise (fun x y => ¬ cf y x < 0) ∧ OwnS e k v m.length (m.flatMap enc) σ' ∧ H' = [σ']) := by
  intro N w hs
  obtain ⟨β, hsat, hup⟩ := exists_base hs
  rcases hO.block with ⟨rfl, hl0, rfl⟩ | ⟨b, cap, cur, rfl, rfl, h1, h2, h3, h4⟩
  · subst hl0
    refine calls_v hf hb hname (Calls.mono (hnone none 0 w) ?_);rintro _ _ ⟨rfl, rfl⟩;exact ⟨_, rfl, [emp], ⟨rfl, [], emp, List.Perm.refl _, List.Pairwise.nil, OwnS.nil e k, rfl⟩, hup _ _ hsat⟩
  · have hg : w.heap[b]? = some (.cells cur e (0, 0)) := hs.own .here
    have hblt : b < w.heap.size := (Array.getElem?_eq_some_iff.1 hg).1
    have hle : l.length * k ≤ cap * k := Nat.mul_le_mul_right k h1
    have hH : HoldsK enc k w b 0 l.toArray := by
      unfold HoldsK;rw [flatK_list hk]
      intro j hj
      simp only [List.size_toArray] at hj
      have hj2 : j < l.length * k := by rwa [flat_len hk] at hj
      have hj' : (cur.toList.take (l.length * k))[j]? = some (l.flatMap enc)[j] := by rw [h4, List.getElem?_eq_getElem hj]
      rw [List.getElem?_take_of_lt hj2, Array.getElem?_toList] at hj';refine ⟨?_, ?_⟩
      · rw [cell_of_row w b _ cur e (0, 0) hg, Nat.zero_add, hj']
        congr 1
        show _ = ((l.flatMap enc).toArray)[j]!
        rw [getElem!_pos _ _ (by simpa using hj)]
        simp
      · simp [World.frozen?, hg]
    have hcl : Go.Proofs.CmpLays P g #[] enc k cf b 0 l.toArray.size w := fun m os dk _ x y => by
      have := calls_of (W := sortWorldK enc k w b 0 m dk os) hgf hgb hgn (hc x y)
      simpa using this
    have hany' := hany b cap l.toArray w hcl hH hblt (by simpa using hl)
    rw [List.size_toArray] at hany';refine calls_v hf hb hname (Calls.mono hany' ?_);rintro _ _ ⟨rfl, d', n, os, hp, hso, rfl⟩
    obtain ⟨m, rfl⟩ : ∃ m : List α, d' = m.toArray := ⟨d'.toList, by simp⟩
    have hsz : m.length = l.length := by have := hp.1; simpa using this
    have hperm : m.Perm l := by
      have := hp.2.2
      rw [show (m.toArray.extract 0 l.length).toList = m by simp [hsz.symm], show (l.toArray.extract 0 l.length).toList = l by simp] at this
      exact this
    have hheap : (sortWorldK enc k w b 0 n m.toArray os).heap = (w.heap.modify b (onCells (putCells id 0 (m.flatMap enc).toArray))) ++ os := by
      unfold sortWorldK putRowK;rw [flatK_list hk]
      rfl
    refine ⟨_, rfl, [sng b (.cells (putCells id 0 (m.flatMap enc).toArray cur) e (0, 0))], ⟨rfl, m, _, hperm, List.pairwise_iff_getElem.2 (fun i j hi hj hij => ?_), ⟨by rw [flat_len hk], .inr ⟨b, cap, _, by rw [hsz], rfl, by omega, h2, ?_, ?_⟩⟩, rfl⟩, ?_⟩
    · have := hso i j (Nat.zero_le _) hij (by omega)
      rw [getElem!_pos _ i (by simpa using hi), getElem!_pos _ j (by simpa using hj)] at this
      unfold Go.Proofs.ltOf at this;rw [decide_eq_false_iff_not] at this
      simpa using this
    · simp [putCells, h3]
    · have := take_putCellsF cur (m.flatMap enc) (by rw [flat_len hk, hsz, h3]; exact hle)
      rwa [flat_len hk] at this
    · refine ⟨⟨?_, rfl, rfl, rfl, Nat.le_add_right _ _⟩, fun k' hk' hno => ?_, fun ρ hρ => ?_, by simp, fun ρ hρ k' hk' => ?_⟩
      · rw [hheap]; simp
      · have hne : k' ≠ b := fun he => by
          subst he
          have := hno (sng k' (.cells cur e (0, 0))) (by simp)
          simp [sng_self] at this
        rw [hheap, Array.getElem?_append_left (by simpa using hk'), Array.getElem?_modify, if_neg (Ne.symm hne)]
      · simp at hρ; subst hρ
        intro k' o hk'
        obtain ⟨rfl, rfl⟩ := sng_some hk'
        rw [hheap, Array.getElem?_append_left (by simpa using hblt), Array.getElem?_modify, if_pos rfl, hg]
        rfl
      · simp at hρ; subst hρ
        left
        refine ⟨sng b (.cells cur e (0, 0)), by simp, ?_⟩
        cases hks : sng b (Obj.cells (putCells id 0 (m.flatMap enc).toArray cur) e (0, 0)) k' with
        | none => exact absurd hks hk'
        | some o =>
          obtain ⟨rfl, _⟩ := sng_some hks
          simp [sng_self]
end Go.Eng
namespace Go.Proofs
open Go.Shelf
def Tryz.layT_ren:Go.Shelf.Ren:=⟨fun|6=>86|15=>92|14=>136|28=>146|29=>147|20=>181|21=>182|22=>183|23=>184|24=>185|25=>186|26=>187|27=>188|46=>220|47=>190|48=>191|49=>221|50=>222|57=>230|n=>n,fun|22=>183|24=>173|25=>187|3=>3|39=>192|0=>0|53=>238|55=>240|4=>4|46=>231|45=>230|50=>235|5=>5|9=>9|66=>277|70=>281|76=>306|77=>307|n=>n,fun|n=>n⟩
theorem Tryz.layT:Go.Proofs.SlLaysF0.n6 Tryz.prog Tryz.layT_ren:={
 mixed:=by kernel_rfl
 f6:=⟨Tryz.f86.name,by decide,Go.Eng.lzZ Tryz.func86⟩
 f14:=⟨Tryz.f136.name,by decide,Go.Eng.lzZ Tryz.func136⟩
 f15:=Go.Eng.lzZ Tryz.func92
 f20:=⟨Tryz.f181.name,by decide,Go.Eng.lzZ Tryz.func181⟩
 f21:=⟨Tryz.f182.name,by decide,Go.Eng.lzZ Tryz.func182⟩
 f22:=⟨Tryz.f183.name,by decide,Go.Eng.lzZ Tryz.func183⟩
 f23:=⟨Tryz.f184.name,by decide,Go.Eng.lzZ Tryz.func184⟩
 f24:=⟨Tryz.f185.name,by decide,Go.Eng.lzZ Tryz.func185⟩
 f25:=⟨Tryz.f186.name,by decide,Go.Eng.lzZ Tryz.func186⟩
 f26:=⟨Tryz.f187.name,by decide,Go.Eng.lzZ Tryz.func187⟩
 f27:=⟨Tryz.f188.name,by decide,Go.Eng.lzZ Tryz.func188⟩
 f28:=Go.Eng.lzZ Tryz.func146
 f29:=Go.Eng.lzZ Tryz.func147
 f46:=⟨Tryz.f220.name,by decide,Go.Eng.lzZ Tryz.func220⟩
 f47:=Go.Eng.lzZ Tryz.func190
 f48:=Go.Eng.lzZ Tryz.func191
 f49:=⟨Tryz.f221.name,by decide,Go.Eng.lzZ Tryz.func221⟩
 f50:=⟨Tryz.f222.name,by decide,Go.Eng.lzZ Tryz.func222⟩
 f57:=⟨Tryz.f230.name,by decide,Go.Eng.lzZ Tryz.func230⟩
 t0:=Tryz.underlying0
 a0:=Tryz.isAgg0
 z0:=Tryz.sizeOf0
 v0:=Tryz.zeroValue0
 t3:=Tryz.underlying3
 a3:=Tryz.isAgg3
 z3:=Tryz.sizeOf3
 v3:=Tryz.zeroValue3
 t4:=Tryz.underlying4
 a4:=Tryz.isAgg4
 z4:=Tryz.sizeOf4
 v4:=Tryz.zeroValue4
 t5:=Tryz.underlying5
 a5:=Tryz.isAgg5
 z5:=Tryz.sizeOf5
 v5:=Tryz.zeroValue5
 t9:=Tryz.underlying9
 a9:=Tryz.isAgg9
 z9:=Tryz.sizeOf9
 v9:=Tryz.zeroValue9
 t22:=Tryz.underlying183
 a22:=Tryz.isAgg183
 z22:=Tryz.sizeOf183
 v22:=Tryz.zeroValue183
 t25:=Tryz.underlying187
 a25:=Tryz.isAgg187
 z25:=Tryz.sizeOf187
 v25:=Tryz.zeroValue187
 t39:=Tryz.underlying192
 a39:=Tryz.isAgg192
 z39:=Tryz.sizeOf192
 v39:=Tryz.zeroValue192
 t45:=Tryz.underlying230
 a45:=Tryz.isAgg230
 z45:=Tryz.sizeOf230
 v45:=Tryz.zeroValue230
 t46:=Tryz.underlying231
 a46:=Tryz.isAgg231
 z46:=Tryz.sizeOf231
 v46:=Tryz.zeroValue231
 t50:=Tryz.underlying235
 a50:=Tryz.isAgg235
 z50:=Tryz.sizeOf235
 v50:=Tryz.zeroValue235
 t53:=Tryz.underlying238
 a53:=Tryz.isAgg238
 z53:=Tryz.sizeOf238
 v53:=Tryz.zeroValue238
 t55:=Tryz.underlying240
 a55:=Tryz.isAgg240
 z55:=Tryz.sizeOf240
 v55:=Tryz.zeroValue240
 t66:=Tryz.underlying277
 a66:=Tryz.isAgg277
 z66:=Tryz.sizeOf277
 v66:=Tryz.zeroValue277
 t70:=Tryz.underlying281
 a70:=Tryz.isAgg281
 z70:=Tryz.sizeOf281
 v70:=Tryz.zeroValue281
 t76:=Tryz.underlying306
 a76:=Tryz.isAgg306
 z76:=Tryz.sizeOf306
 v76:=Tryz.zeroValue306
 t77:=Tryz.underlying307
 a77:=Tryz.isAgg307
 z77:=Tryz.sizeOf307
 v77:=Tryz.zeroValue307 }
def Tryz.layB_ren:Go.Shelf.Ren:=⟨fun|6=>39|15=>92|14=>91|28=>146|29=>147|20=>138|21=>139|22=>140|23=>141|24=>142|25=>143|26=>144|27=>145|46=>189|47=>190|48=>191|49=>192|50=>193|57=>223|n=>n,fun|22=>26|24=>95|25=>101|3=>3|39=>192|0=>0|53=>238|55=>240|4=>4|46=>231|45=>230|50=>235|5=>5|9=>9|66=>277|70=>281|76=>306|77=>307|n=>n,fun|n=>n⟩
theorem Tryz.layB:Go.Proofs.SlLaysF0.n6 Tryz.prog Tryz.layB_ren:={
 mixed:=by kernel_rfl
 f6:=⟨Tryz.f39.name,by decide,Go.Eng.lzZ Tryz.func39⟩
 f14:=⟨Tryz.f91.name,by decide,Go.Eng.lzZ Tryz.func91⟩
 f15:=Go.Eng.lzZ Tryz.func92
 f20:=⟨Tryz.f138.name,by decide,Go.Eng.lzZ Tryz.func138⟩
 f21:=⟨Tryz.f139.name,by decide,Go.Eng.lzZ Tryz.func139⟩
 f22:=⟨Tryz.f140.name,by decide,Go.Eng.lzZ Tryz.func140⟩
 f23:=⟨Tryz.f141.name,by decide,Go.Eng.lzZ Tryz.func141⟩
 f24:=⟨Tryz.f142.name,by decide,Go.Eng.lzZ Tryz.func142⟩
 f25:=⟨Tryz.f143.name,by decide,Go.Eng.lzZ Tryz.func143⟩
 f26:=⟨Tryz.f144.name,by decide,Go.Eng.lzZ Tryz.func144⟩
 f27:=⟨Tryz.f145.name,by decide,Go.Eng.lzZ Tryz.func145⟩
 f28:=Go.Eng.lzZ Tryz.func146
 f29:=Go.Eng.lzZ Tryz.func147
 f46:=⟨Tryz.f189.name,by decide,Go.Eng.lzZ Tryz.func189⟩
 f47:=Go.Eng.lzZ Tryz.func190
 f48:=Go.Eng.lzZ Tryz.func191
 f49:=⟨Tryz.f192.name,by decide,Go.Eng.lzZ Tryz.func192⟩
 f50:=⟨Tryz.f193.name,by decide,Go.Eng.lzZ Tryz.func193⟩
 f57:=⟨Tryz.f223.name,by decide,Go.Eng.lzZ Tryz.func223⟩
 t0:=Tryz.underlying0
 a0:=Tryz.isAgg0
 z0:=Tryz.sizeOf0
 v0:=Tryz.zeroValue0
 t3:=Tryz.underlying3
 a3:=Tryz.isAgg3
 z3:=Tryz.sizeOf3
 v3:=Tryz.zeroValue3
 t4:=Tryz.underlying4
 a4:=Tryz.isAgg4
 z4:=Tryz.sizeOf4
 v4:=Tryz.zeroValue4
 t5:=Tryz.underlying5
 a5:=Tryz.isAgg5
 z5:=Tryz.sizeOf5
 v5:=Tryz.zeroValue5
 t9:=Tryz.underlying9
 a9:=Tryz.isAgg9
 z9:=Tryz.sizeOf9
 v9:=Tryz.zeroValue9
 t22:=Tryz.underlying26
 a22:=Tryz.isAgg26
 z22:=Tryz.sizeOf26
 v22:=Tryz.zeroValue26
 t25:=Tryz.underlying101
 a25:=Tryz.isAgg101
 z25:=Tryz.sizeOf101
 v25:=Tryz.zeroValue101
 t39:=Tryz.underlying192
 a39:=Tryz.isAgg192
 z39:=Tryz.sizeOf192
 v39:=Tryz.zeroValue192
 t45:=Tryz.underlying230
 a45:=Tryz.isAgg230
 z45:=Tryz.sizeOf230
 v45:=Tryz.zeroValue230
 t46:=Tryz.underlying231
 a46:=Tryz.isAgg231
 z46:=Tryz.sizeOf231
 v46:=Tryz.zeroValue231
 t50:=Tryz.underlying235
 a50:=Tryz.isAgg235
 z50:=Tryz.sizeOf235
 v50:=Tryz.zeroValue235
 t53:=Tryz.underlying238
 a53:=Tryz.isAgg238
 z53:=Tryz.sizeOf238
 v53:=Tryz.zeroValue238
 t55:=Tryz.underlying240
 a55:=Tryz.isAgg240
 z55:=Tryz.sizeOf240
 v55:=Tryz.zeroValue240
 t66:=Tryz.underlying277
 a66:=Tryz.isAgg277
 z66:=Tryz.sizeOf277
 v66:=Tryz.zeroValue277
 t70:=Tryz.underlying281
 a70:=Tryz.isAgg281
 z70:=Tryz.sizeOf281
 v70:=Tryz.zeroValue281
 t76:=Tryz.underlying306
 a76:=Tryz.isAgg306
 z76:=Tryz.sizeOf306
 v76:=Tryz.zeroValue306
 t77:=Tryz.underlying307
 a77:=Tryz.isAgg307
 z77:=Tryz.sizeOf307
 v77:=Tryz.zeroValue307 }
def Tryz.layH_ren:Go.Shelf.Ren:=⟨fun|6=>41|15=>92|14=>93|28=>146|29=>147|20=>148|21=>149|22=>150|23=>151|24=>152|25=>153|26=>154|27=>155|46=>194|47=>190|48=>191|49=>195|50=>196|57=>224|n=>n,fun|22=>27|24=>99|25=>103|3=>3|39=>192|0=>0|53=>238|55=>240|4=>4|46=>231|45=>230|50=>235|5=>5|9=>9|66=>277|70=>281|76=>306|77=>307|n=>n,fun|n=>n⟩
theorem Tryz.layH:Go.Proofs.SlLaysF0.n6 Tryz.prog Tryz.layH_ren:={
 mixed:=by kernel_rfl
 f6:=⟨Tryz.f41.name,by decide,Go.Eng.lzZ Tryz.func41⟩
 f14:=⟨Tryz.f93.name,by decide,Go.Eng.lzZ Tryz.func93⟩
 f15:=Go.Eng.lzZ Tryz.func92
 f20:=⟨Tryz.f148.name,by decide,Go.Eng.lzZ Tryz.func148⟩
 f21:=⟨Tryz.f149.name,by decide,Go.Eng.lzZ Tryz.func149⟩
 f22:=⟨Tryz.f150.name,by decide,Go.Eng.lzZ Tryz.func150⟩
 f23:=⟨Tryz.f151.name,by decide,Go.Eng.lzZ Tryz.func151⟩
 f24:=⟨Tryz.f152.name,by decide,Go.Eng.lzZ Tryz.func152⟩
 f25:=⟨Tryz.f153.name,by decide,Go.Eng.lzZ Tryz.func153⟩
 f26:=⟨Tryz.f154.name,by decide,Go.Eng.lzZ Tryz.func154⟩
 f27:=⟨Tryz.f155.name,by decide,Go.Eng.lzZ Tryz.func155⟩
 f28:=Go.Eng.lzZ Tryz.func146
 f29:=Go.Eng.lzZ Tryz.func147
 f46:=⟨Tryz.f194.name,by decide,Go.Eng.lzZ Tryz.func194⟩
 f47:=Go.Eng.lzZ Tryz.func190
 f48:=Go.Eng.lzZ Tryz.func191
 f49:=⟨Tryz.f195.name,by decide,Go.Eng.lzZ Tryz.func195⟩
 f50:=⟨Tryz.f196.name,by decide,Go.Eng.lzZ Tryz.func196⟩
 f57:=⟨Tryz.f224.name,by decide,Go.Eng.lzZ Tryz.func224⟩
 t0:=Tryz.underlying0
 a0:=Tryz.isAgg0
 z0:=Tryz.sizeOf0
 v0:=Tryz.zeroValue0
 t3:=Tryz.underlying3
 a3:=Tryz.isAgg3
 z3:=Tryz.sizeOf3
 v3:=Tryz.zeroValue3
 t4:=Tryz.underlying4
 a4:=Tryz.isAgg4
 z4:=Tryz.sizeOf4
 v4:=Tryz.zeroValue4
 t5:=Tryz.underlying5
 a5:=Tryz.isAgg5
 z5:=Tryz.sizeOf5
 v5:=Tryz.zeroValue5
 t9:=Tryz.underlying9
 a9:=Tryz.isAgg9
 z9:=Tryz.sizeOf9
 v9:=Tryz.zeroValue9
 t22:=Tryz.underlying27
 a22:=Tryz.isAgg27
 z22:=Tryz.sizeOf27
 v22:=Tryz.zeroValue27
 t25:=Tryz.underlying103
 a25:=Tryz.isAgg103
 z25:=Tryz.sizeOf103
 v25:=Tryz.zeroValue103
 t39:=Tryz.underlying192
 a39:=Tryz.isAgg192
 z39:=Tryz.sizeOf192
 v39:=Tryz.zeroValue192
 t45:=Tryz.underlying230
 a45:=Tryz.isAgg230
 z45:=Tryz.sizeOf230
 v45:=Tryz.zeroValue230
 t46:=Tryz.underlying231
 a46:=Tryz.isAgg231
 z46:=Tryz.sizeOf231
 v46:=Tryz.zeroValue231
 t50:=Tryz.underlying235
 a50:=Tryz.isAgg235
 z50:=Tryz.sizeOf235
 v50:=Tryz.zeroValue235
 t53:=Tryz.underlying238
 a53:=Tryz.isAgg238
 z53:=Tryz.sizeOf238
 v53:=Tryz.zeroValue238
 t55:=Tryz.underlying240
 a55:=Tryz.isAgg240
 z55:=Tryz.sizeOf240
 v55:=Tryz.zeroValue240
 t66:=Tryz.underlying277
 a66:=Tryz.isAgg277
 z66:=Tryz.sizeOf277
 v66:=Tryz.zeroValue277
 t70:=Tryz.underlying281
 a70:=Tryz.isAgg281
 z70:=Tryz.sizeOf281
 v70:=Tryz.zeroValue281
 t76:=Tryz.underlying306
 a76:=Tryz.isAgg306
 z76:=Tryz.sizeOf306
 v76:=Tryz.zeroValue306
 t77:=Tryz.underlying307
 a77:=Tryz.isAgg307
 z77:=Tryz.sizeOf307
 v77:=Tryz.zeroValue307 }
end Go.Proofs
namespace Go.Proofs.YtjehnjhkcmobcaaGreat
open Go.Eng Go.Step
set_option maxRecDepth 100000
set_option maxHeartbeats 64000000
def cmpT (x y:Int × Int):Int:=orI [cmpI x.1 y.1,cmpI x.2 y.2]
theorem cmpT_lt (x y:Int × Int):cmpT x y<0↔lexT x y:=by
 have:=cmpBk_lt ⟨x.1,x.2,0,0⟩ ⟨y.1,y.2,0,0⟩
 exact this
theorem tickCmp_spec (x y:Int × Int):Ans Tryz.prog (fv 87) [.agg #[int x.1,int x.2],.agg #[int y.1,int y.2]] [] (fun r=>r=int (cmpT x y)):=by
 refine spec_in (cap:=[]) Tryz.func87 rfl rfl Tryz.ntmps87 rfl envZ (fun N β=>?_)
 refine Aa ?_;refine CO ?_; rintro _ _ ⟨b,rfl,rfl⟩;refine CO ?_; rintro _ _ ⟨b,rfl,rfl⟩;refine Abl ?_
 refine A6 (.q 0 (.q 1 (.q 2 (.q 3 (.q 5 (.q 6 (.q 7 (.q 8 (.l 4 .e (.l 9 .e (.l 10 .e (.l 11 .e (.q 12 .nil))))))))))))) [] rfl (by kernel_rfl) selZ ?_
 refine Adl ?_;refine Adl ?_
 focus ((refine CF (CC rfl (cmpI_spec _ _) rfl rfl rdZ rfl rfl ?_); rintro _ rfl))
 focus ((refine CF (CC rfl (cmpI_spec _ _) rfl rfl rdZ rfl rfl ?_); rintro _ rfl))
 refine BF ?_; rintro _ _ ⟨b,rfl,rfl⟩
 revert b; intro bo
 refine CF (CC rfl (or_spec (sng bo _) _ [cmpI x.1 y.1,cmpI x.2 y.2] (slE_sng Eng.encI_len) (by simp)) rfl rfl rdZ rfl rfl ?_)
 rintro _ rfl;refine Adr ?_
 skip
 exact A3 ⟨rfl,rfl⟩
theorem bkCmp_spec (x y:Bk):Ans Tryz.prog (fv 40) [.agg #[int x.c,int x.a,int x.b,int x.k],.agg #[int y.c,int y.a,int y.b,int y.k]] [] (fun r=>r=int (cmpBk x y)):=by
 refine spec_in (cap:=[]) Tryz.func40 rfl rfl Tryz.ntmps40 rfl envZ (fun N β=>?_)
 refine Aa ?_;refine CO ?_; rintro _ _ ⟨b,rfl,rfl⟩;refine CO ?_; rintro _ _ ⟨b,rfl,rfl⟩;refine Abl ?_
 refine A6 (.q 0 (.q 1 (.q 2 (.q 3 (.q 5 (.q 6 (.q 7 (.q 8 (.l 4 .e (.l 9 .e (.l 10 .e (.l 11 .e (.q 12 .nil))))))))))))) [] rfl (by kernel_rfl) selZ ?_
 refine Adl ?_;refine Adl ?_
 focus ((refine CF (CC rfl (cmpI_spec _ _) rfl rfl rdZ rfl rfl ?_); rintro _ rfl))
 focus ((refine CF (CC rfl (cmpI_spec _ _) rfl rfl rdZ rfl rfl ?_); rintro _ rfl))
 refine BF ?_; rintro _ _ ⟨b,rfl,rfl⟩
 revert b; intro bo
 refine CF (CC rfl (or_spec (sng bo _) _ [cmpI x.c y.c,cmpI x.a y.a] (slE_sng Eng.encI_len) (by simp)) rfl rfl rdZ rfl rfl ?_)
 rintro _ rfl;refine Adr ?_
 skip
 exact A3 ⟨rfl,rfl⟩
theorem hdCmp_spec (x y:Hd):Ans Tryz.prog (fv 42) [.agg #[int x.n,int x.a,int x.b,int x.s,int x.k],.agg #[int y.n,int y.a,int y.b,int y.s,int y.k]] [] (fun r=>r=int (cmpHd x y)):=by
 refine spec_in (cap:=[]) Tryz.func42 rfl rfl Tryz.ntmps42 rfl envZ (fun N β=>?_)
 refine Aa ?_;refine CO ?_; rintro _ _ ⟨b,rfl,rfl⟩;refine CO ?_; rintro _ _ ⟨b,rfl,rfl⟩;refine Abl ?_
 refine A6 (.q 0 (.q 1 (.q 2 (.q 3 (.q 5 (.q 6 (.q 7 (.q 8 (.q 10 (.q 11 (.q 12 (.q 13 (.q 15 (.q 16 (.q 17 (.q 18 (.q 20 (.q 21 (.q 22 (.q 23 (.l 4 .e (.l 9 .e (.l 14 .e (.l 19 .e (.l 24 .e (.l 25 .e (.l 26 .e (.q 27 .nil)))))))))))))))))))))))))))) [] rfl (by kernel_rfl) selZ ?_
 refine Adl ?_;refine Adl ?_;refine Adl ?_;refine Adl ?_;refine Adl ?_
 focus ((refine CF (CC rfl (cmpI_spec _ _) rfl rfl rdZ rfl rfl ?_); rintro _ rfl))
 focus ((refine CF (CC rfl (cmpI_spec _ _) rfl rfl rdZ rfl rfl ?_); rintro _ rfl))
 focus ((refine CF (CC rfl (cmpI_spec _ _) rfl rfl rdZ rfl rfl ?_); rintro _ rfl))
 focus ((refine CF (CC rfl (cmpI_spec _ _) rfl rfl rdZ rfl rfl ?_); rintro _ rfl))
 focus ((refine CF (CC rfl (cmpI_spec _ _) rfl rfl rdZ rfl rfl ?_); rintro _ rfl))
 refine BF ?_; rintro _ _ ⟨b,rfl,rfl⟩
 revert b; intro bo
 refine CF (CC rfl (or_spec (sng bo _) _ [cmpI x.n y.n,cmpI x.a y.a,cmpI x.b y.b,cmpI x.k y.k,cmpI x.s y.s] (slE_sng Eng.encI_len) (by simp)) rfl rfl rdZ rfl rfl ?_)
 rintro _ rfl;refine Adr ?_
 skip
 exact A3 ⟨rfl,rfl⟩
theorem swoT:Go.Sort.SWO (Go.Proofs.ltOf cmpT):=by
 have h:∀ x y,Go.Proofs.ltOf cmpT x y=true↔lexT x y:=fun x y=>by unfold Go.Proofs.ltOf; rw [decide_eq_true_eq,cmpT_lt]
 have h2:∀ x y,Go.Proofs.ltOf cmpT x y=false↔¬ lexT x y:=fun x y=>by rw [← h x y,Bool.not_eq_true]
 refine ⟨fun x=>(h2 x x).2 (by unfold lexT; omega),fun x y z a b=>(h x z).2 ?_,fun x y z a b=>(h2 x z).2 ?_⟩
 ·have a:=(h x y).1 a; have b:=(h y z).1 b; unfold lexT at *; omega
 ·have a:=(h2 x y).1 a; have b:=(h2 y z).1 b; unfold lexT at *; omega
theorem swoB:Go.Sort.SWO (Go.Proofs.ltOf cmpBk):=by
 have h:∀ x y,Go.Proofs.ltOf cmpBk x y=true↔x.c<y.c∨(x.c=y.c∧x.a<y.a):=fun x y=>by unfold Go.Proofs.ltOf; rw [decide_eq_true_eq,cmpBk_lt]
 have h2:∀ x y,Go.Proofs.ltOf cmpBk x y=false↔¬ (x.c<y.c∨(x.c=y.c∧x.a<y.a)):=fun x y=>by rw [← h x y,Bool.not_eq_true]
 refine ⟨fun x=>(h2 x x).2 (by omega),fun x y z a b=>(h x z).2 ?_,fun x y z a b=>(h2 x z).2 ?_⟩
 ·have a:=(h x y).1 a; have b:=(h y z).1 b; omega
 ·have a:=(h2 x y).1 a; have b:=(h2 y z).1 b; omega
theorem swoH:Go.Sort.SWO (Go.Proofs.ltOf cmpHd):=by
 have h:∀ x y,Go.Proofs.ltOf cmpHd x y=true↔cmpHd x y<0:=fun x y=>by unfold Go.Proofs.ltOf; rw [decide_eq_true_eq]
 have h2:∀ x y,Go.Proofs.ltOf cmpHd x y=false↔¬ cmpHd x y<0:=fun x y=>by unfold Go.Proofs.ltOf; rw [decide_eq_false_iff_not]
 refine ⟨fun x=>(h2 x x).2 (by rw [cmpHd_refl]; omega),fun x y z a b=>(h x z).2 ?_,fun x y z a b=>(h2 x z).2 ?_⟩
 ·exact cmpHd_lt_trans (by have:=(h x y).1 a; omega) ((h y z).1 b)
 ·have a:=(h2 x y).1 a
  have b:=(h2 y z).1 b
  have e1:=cmpHd_neg x y
  have e2:=cmpHd_neg y z
  have e3:=cmpHd_neg x z
  have:=cmpHd_trans (x:=z) (y:=y) (z:=x) (by omega) (by omega)
  omega
instance:Inhabited Bk:=⟨⟨0,0,0,0⟩⟩
instance:Inhabited Hd:=⟨⟨0,0,0,0,0⟩⟩
theorem one_T (x:Int × Int):∀ u∈encS x,u.oneCell'=true:=by
 intro u hu
 simp only [encS,List.mem_cons,List.not_mem_nil,or_false] at hu
 rcases hu with rfl|rfl <;> rfl
theorem sortT_spec (σ:PH) (v:Value) (l:List (Int × Int)) (hO:OwnS 173 2 v l.length (l.flatMap encS) σ) (hl:l.length≤1000000) :
  Eng.Spec Tryz.prog (fv 86) [v,fv 87] [] [σ] (fun r H'=>r=.tuple #[]∧∃ (m:List (Int × Int)) (σ':PH),m.Perm l∧m.Pairwise (fun x y=>¬ cmpT y x<0)∧OwnS 173 2 v m.length (m.flatMap encS) σ'∧H'=[σ']):=
 sortF_of (f:=86) (g:=87) (enc:=encS) (cf:=cmpT) Tryz.func86 rfl rfl Tryz.func87 rfl rfl encS_len
  (fun blk cap d w hc hH hb hs=>Go.Proofs.AnyQ.slices_SortFunc Tryz.layT 2 Tryz.isAgg173 Tryz.sizeOf173 encS encS_len one_T cmpT swoT 87 #[] blk 0 cap d w (Go.Proofs.enters_of Tryz.func87 (by kernel_rfl) rfl) hc hH hb hs)
  (fun p cap w=>Go.Proofs.AnyF.slices_SortFunc_none { Tryz.layT with } p cap (fv 87) w)
  (fun x y=>tickCmp_spec x y) hO (by omega)
theorem sortB_spec (σ:PH) (v:Value) (l:List (Bk)) (hO:OwnS 95 4 v l.length (l.flatMap encB) σ) (hl:l.length≤1000000) :
  Eng.Spec Tryz.prog (fv 39) [v,fv 40] [] [σ] (fun r H'=>r=.tuple #[]∧∃ (m:List (Bk)) (σ':PH),m.Perm l∧m.Pairwise (fun x y=>¬ cmpBk y x<0)∧OwnS 95 4 v m.length (m.flatMap encB) σ'∧H'=[σ']):=
 sortF_of (f:=39) (g:=40) (enc:=encB) (cf:=cmpBk) Tryz.func39 rfl rfl Tryz.func40 rfl rfl encB_len
  (fun blk cap d w hc hH hb hs=>Go.Proofs.AnyQ.slices_SortFunc Tryz.layB 4 Tryz.isAgg95 Tryz.sizeOf95 encB encB_len one_Bk cmpBk swoB 40 #[] blk 0 cap d w (Go.Proofs.enters_of Tryz.func40 (by kernel_rfl) rfl) hc hH hb hs)
  (fun p cap w=>Go.Proofs.AnyF.slices_SortFunc_none { Tryz.layB with } p cap (fv 40) w)
  (fun x y=>bkCmp_spec x y) hO (by omega)
theorem sortH_spec (σ:PH) (v:Value) (l:List (Hd)) (hO:OwnS 99 5 v l.length (l.flatMap encH) σ) (hl:l.length≤1000000) :
  Eng.Spec Tryz.prog (fv 41) [v,fv 42] [] [σ] (fun r H'=>r=.tuple #[]∧∃ (m:List (Hd)) (σ':PH),m.Perm l∧m.Pairwise (fun x y=>¬ cmpHd y x<0)∧OwnS 99 5 v m.length (m.flatMap encH) σ'∧H'=[σ']):=
 sortF_of (f:=41) (g:=42) (enc:=encH) (cf:=cmpHd) Tryz.func41 rfl rfl Tryz.func42 rfl rfl encH_len
  (fun blk cap d w hc hH hb hs=>Go.Proofs.AnyQ.slices_SortFunc Tryz.layH 5 Tryz.isAgg99 Tryz.sizeOf99 encH encH_len one_Hd cmpHd swoH 42 #[] blk 0 cap d w (Go.Proofs.enters_of Tryz.func42 (by kernel_rfl) rfl) hc hH hb hs)
  (fun p cap w=>Go.Proofs.AnyF.slices_SortFunc_none { Tryz.layH with } p cap (fv 42) w)
  (fun x y=>hdCmp_spec x y) hO (by omega)
end Go.Proofs.YtjehnjhkcmobcaaGreat
