/- Texts of this proof, one after the other; no conditions. -/
import Derived.Test.YtekcielcagdcmaaGreatDoorWB11
import Derived.Test.YtekcielcagdcmaaGreatDoorWB2
import Derived.Test.YtekcielcagdcmaaGreatDoorWB5
import Derived.Test.YtekcielcagdcmaaGreatDoorWB1
import Derived.Test.YtekcielcagdcmaaGreatDoorWB10
import Derived.Test.YtekcielcagdcmaaGreatDoorWB3
set_option linter.all false
/- Links: checking, the next frame, receiving. -/
namespace Go.Proofs.YtekcielcagdcmaaGreatDoor
open Go.Eng Go.Step
set_option maxRecDepth 100000
set_option maxHeartbeats 64000000
theorem cloneFr_spec {d:List UInt8} (ρ:PH) (v:Value) (l:List (Frm × Value)) (hv:SlE (encF d) 10 ρ v l) (hl:l.length≤1000000) (hones:∀ u∈l.flatMap (encF d),u.oneCell'=true) :
  Makes Tryz.prog (fv 229) [v] [ρ] (fun r σ=>OwnS 283 10 r l.length (l.flatMap (encF d)) σ):=by
 have hv2:=hv
 obtain ⟨q,c,rfl,hr⟩:=hv.val (encF_len d)
 refine spec_in (cap:=[]) Tryz.func229 rfl rfl Tryz.ntmps229 rfl envZ (fun N β=>?_)
 cases q with
 | none =>
  have hnil:l=[]:=by
   cases l with
   | nil=>rfl
   | cons a l =>
    obtain ⟨b,o,e,_⟩:=hr 0 a rfl
    simp at e
  subst hnil;refine CG ?_;refine Ab6 ?_
  focus ((refine' BT _ rfl rfl rfl _; rotate_left; (apply E4; exact rfl; exact rfl; exact rfl)))
  refine Acd ?_;exact AK (res1 rfl rfl) rsubZ selZ ⟨emp,OwnS.nil _ _,rfl⟩
 | some ad =>
  refine Ab6 ?_
  focus ((refine' BT _ rfl rfl rfl _; rotate_left; (apply E5; exact rfl; exact rfl; exact rfl)))
  refine Aag ?_;refine Aa ?_;refine BN ?_; rintro _ _ ⟨b,rfl,rfl⟩;refine AB ?_
  refine BJ (DP (by_:=104) (s:=10) (σ:=ρ) (news:=l.flatMap (encF d)) (m:=l.length) rfl rfl rfl rfl rfl rfl rfl (OwnS.empty (b:=b)) takeZ hv2 (fun b o h=>cellsR h memZ) hones (by simp only [maxLen]; omega) (by omega)) rfl rfl rfl ?_
  rintro r1 _ ⟨σ,hO,rfl⟩;refine Aaa ?_;refine AK (res1 rfl rfl) rsubZ selZ ⟨σ,?_,rfl⟩
  simpa using hO
theorem lnkCheck_spec {σ:PH} {d:List UInt8} {F:List (Frm × Value)} {p:Option Addr} {c:Nat} {rng sent lost lo hi:Int} {n:Nat} {K:Iv} {isd:Bool} (hv:SlE (encF d) 10 σ (.slice p F.length c) F) (h1:∀ f∈F,f.2.oneCell'=true) (hC:ChOK lo hi n K isd ⟨F.map (·.1),sent,lost⟩) (hlo:0≤lo) (hhi:hi≤2199023255552) (hr:1≤rng∧rng≤1048576) (hs:sent≤1000000):Ans Tryz.prog (fv 175) [.agg #[int rng,.slice p F.length c,int sent,int lost]] [σ] (fun r=>r=int 0):=by
 have hd:=lnkDelay_spec hr
 obtain ⟨hl0,hl1⟩:=hC.lst
 dsimp only at hl0 hl1
 have hlen:F.length≤10000:=by have:=hC.len; dsimp only at this; rw [List.length_map] at this; exact this
 have hfr:∀ (i:Nat) (x:Frm × Value),F[i]?=some x→0≤x.1.arr∧x.1.arr≤2199023255552∧0≤x.1.num∧x.1.num<sent:=fun i x hx=>by
  have:=hC.fr x.1 (List.mem_map.2 ⟨x,List.mem_of_getElem? hx,rfl⟩)
  dsimp only at this
  omega
 have hsr:∀ (i:Nat) (x y:Frm × Value),F[i]?=some x→F[i+1]?=some y→x.1.arr≤y.1.arr:=fun i x y hx hy=>by
  have h2:=hC.srt
  dsimp only at h2
  rw [List.pairwise_map] at h2
  obtain ⟨hi1,e1⟩:=List.getElem?_eq_some_iff.1 hx
  obtain ⟨hi2,e2⟩:=List.getElem?_eq_some_iff.1 hy
  have:=List.pairwise_iff_getElem.1 h2 i (i+1) hi1 hi2 (by omega)
  rw [e1,e2] at this;exact this
 obtain ⟨_,_,e0,hrd⟩:=hv.val (encF_len d)
 simp only [Value.slice.injEq] at e0
 obtain ⟨rfl,_,rfl⟩:=e0
 refine spec_in (cap:=[]) Tryz.func175 rfl rfl Tryz.ntmps175 rfl envZ (fun N β=>?_)
 refine Aa ?_;refine BJ (BL rfl) rfl rfl rfl ?_;rintro _ _ ⟨b1,rfl,rfl⟩;refine AS (ρ:=sng b1 _) takeZ ?_
 have cc:=rdB b1 92 [int rng,.slice p F.length c,int sent,int lost]
 have cc0:=rdC cc 0
 have cc1:=rdC cc 1
 have cc2:=rdC cc 2
 have cc3:=rdC cc 3
 refine Adr ?_;refine AT hd rfl rfl rdZ rfl rfl ?_;rintro _ rfl;refine BE ?_;refine Aak ?_;refine BK ?_;refine Aa5 ?_;refine BK ?_;refine Adl ?_;refine BO ?_;refine Aa4 ?_;refine Abg ?_;refine BD ?_;refine Adg ?_;refine Abg ?_;refine Aby ?_
 refine BU [0,1,31,32] (0:Nat) (fun k=>k≤F.length) (fun k=>[(33,int k)]) (fun _=>[]) (fun k=>F.length-k) pickZ (Nat.zero_le _) covZ selZ ?_
 rintro k hk
 by_cases hlt:k<F.length
 rotate_left
 ·have hke:k=F.length:=by omega
  subst hke;refine Ab5 ?_;refine Aal ?_;exact A9 ⟨rfl,rfl⟩
 have hx:=List.getElem?_eq_getElem hlt
 have hxf:=hfr k _ hx
 have hx1:=h1 _ (List.getElem_mem hlt)
 obtain ⟨bf,oF,rfl,hR⟩:=hrd k _ hx
 by_cases hk0:k=0
 ·subst hk0
  generalize F[0]=x at hx hxf hx1 hR
  obtain ⟨m0,m1,m2,m3,m4,m5,m6,m7,em,k0,k1,k2,k3,k4,k5,k6,k7⟩:=enc8 d x.1.g hx1
  have hR:RdN σ bf (oF+0*10) [int x.1.arr,int x.1.num,m0,m1,m2,m3,m4,m5,m6,m7]:=by have h:=hR; unfold encF at h; rw [em] at h; exact h
  refine Abn ?_;refine Aab ?_;refine Ab4 ?_;refine A4 ?_; rintro _ _ ⟨b,rfl,rfl⟩;refine AC ?_;refine AY ?_; rintro _ _ ⟨rfl,rfl⟩;refine Acb ?_;refine BK ?_;refine Aak ?_;refine Ab1 ?_;refine BK ?_;refine Adl ?_;refine CP ?_;refine Aa4 ?_;refine AD ?_
  revert b; intro b4
  refine AS (ρ:=sng b4 _) takeZ ?_
  have bx224_3:=rdB b4 283 [int x.1.arr,int x.1.num,m0,m1,m2,m3,m4,m5,m6,m7]
  have f0:=rdC bx224_3 0
  have f1:=rdC bx224_3 1
  skip
  refine BB P6Z [] rfl (by kernel_rfl) selZ ?_
  refine AL ?_;refine D0 ?_;refine Acx ?_;refine Aae ?_;refine CB ?_;refine Adu ?_;refine CR ?_
  exact BG 1 (by omega) (by omega) covZ selZ
 have hy:=List.getElem?_eq_getElem (show k-1<F.length by omega)
 have hxy:=hsr (k-1) _ F[k] hy (by rw [show k-1+1=k from by omega]; exact hx)
 obtain ⟨b5,o5,e5,hR5⟩:=hrd (k-1) _ hy
 simp only [Option.some.injEq,Addr.mk.injEq,and_true] at e5
 obtain ⟨rfl,rfl⟩:=e5
 generalize F[k]=x at hx hxf hx1 hR hxy
 generalize F[k-1]=y at hy hxy hR5
 have y0:rdc σ bf (oF+(k-1)*10)=some (int y.1.arr):=RdN.get0 hR5
 obtain ⟨m0,m1,m2,m3,m4,m5,m6,m7,em,k0,k1,k2,k3,k4,k5,k6,k7⟩:=enc8 d x.1.g hx1
 have hR:RdN σ bf (oF+k*10) [int x.1.arr,int x.1.num,m0,m1,m2,m3,m4,m5,m6,m7]:=by have h:=hR; unfold encF at h; rw [em] at h; exact h
 refine Abn ?_;refine Aab ?_;refine Ab4 ?_;refine A4 ?_; rintro _ _ ⟨b,rfl,rfl⟩;refine AC ?_;refine AY ?_; rintro _ _ ⟨rfl,rfl⟩;refine Acb ?_;refine BK ?_;refine Aak ?_;refine Ab1 ?_;refine BK ?_;refine Adl ?_;refine CP ?_;refine Aa4 ?_;refine AD ?_
 revert b; intro b4
 refine AS (ρ:=sng b4 _) takeZ ?_
 have bx309_3:=rdB b4 283 [int x.1.arr,int x.1.num,m0,m1,m2,m3,m4,m5,m6,m7]
 have f0:=rdC bx309_3 0
 have f1:=rdC bx309_3 1
 skip
 refine BB P6Z [] rfl (by kernel_rfl) selZ ?_
 refine AL ?_;refine EW ?_;refine Ab2 ?_;refine Aan ?_;refine AL ?_;refine Adf ?_;refine Ac1 ?_;refine DR ?_;refine BY ?_;refine Adu ?_;refine CR ?_
 exact BG (k+1) (by omega) (by omega) covZ selZ
theorem lnkNext_spec {σ:PH} {d:List UInt8} {F:List (Frm × Value)} {p:Option Addr} {c:Nat} {rng sent lost lo hi:Int} {n:Nat} {K:Iv} {isd:Bool} (hv:SlE (encF d) 10 σ (.slice p F.length c) F) (h1:∀ f∈F,f.2.oneCell'=true) (hC:ChOK lo hi n K isd ⟨F.map (·.1),sent,lost⟩) (hlo:0≤lo) (hhi:hi≤2199023255552) (hr:1≤rng∧rng≤1048576) (hs:sent≤1000000):Ans Tryz.prog (fv 137) [.agg #[int rng,.slice p F.length c,int sent,int lost]] [σ] (fun r=>(F=[]∧r=.tuple #[int 0,.bool false])∨∃ x l,F=x::l∧r=.tuple #[int x.1.arr,.bool true]):=by
 have hc:=lnkCheck_spec hv h1 hC hlo hhi hr hs
 obtain ⟨_,_,e0,hrd⟩:=hv.val (encF_len d)
 simp only [Value.slice.injEq] at e0
 obtain ⟨rfl,_,rfl⟩:=e0
 cases F with
 | nil =>
  have hl0:([]:List (Frm × Value)).length=0:=rfl
  refine spec_in (cap:=[]) Tryz.func137 rfl rfl Tryz.ntmps137 rfl envZ (fun N β=>?_)
  refine Aa ?_;refine BJ (BL rfl) rfl rfl rfl ?_;rintro _ _ ⟨b1,rfl,rfl⟩;refine AS (ρ:=sng b1 _) takeZ ?_
  have cc:=rdB b1 92 [int rng,.slice p ([]:List (Frm × Value)).length c,int sent,int lost]
  have cc0:=rdC cc 0
  have cc1:=rdC cc 1
  have cc2:=rdC cc 2
  have cc3:=rdC cc 3
  refine Ac6 ?_;refine AT hc rfl rfl rdZ rfl rfl ?_;rintro _ rfl;refine BM ?_;refine Aak ?_;refine BD ?_;refine CN ?_;refine AP ?_;refine Aai ?_;refine Acn ?_;exact AK (res2 rfl rfl rfl) rsubZ selZ ⟨rfl,.inl ⟨rfl,rfl⟩⟩
 | cons x l =>
  have hl0:(x::l).length=l.length+1:=rfl
  obtain ⟨bf,oF,rfl,hR⟩:=hrd 0 x rfl
  have y0:rdc σ bf (oF+0*10)=some (int x.1.arr):=RdN.get0 hR
  have y1:rdc σ bf oF=some (int x.1.arr):=by rw [Nat.zero_mul] at y0; exact y0
  generalize (x::l).length=len at hl0 hc
  refine spec_in (cap:=[]) Tryz.func137 rfl rfl Tryz.ntmps137 rfl envZ (fun N β=>?_)
  refine Aa ?_;refine BJ (BL rfl) rfl rfl rfl ?_;rintro _ _ ⟨b1,rfl,rfl⟩;refine AS (ρ:=sng b1 _) takeZ ?_
  have cc:=rdB b1 92 [int rng,.slice (some ⟨bf,oF,none⟩) len c,int sent,int lost]
  have cc0:=rdC cc 0
  have cc1:=rdC cc 1
  have cc2:=rdC cc 2
  have cc3:=rdC cc 3
  refine Ac6 ?_;refine AT hc rfl rfl rdZ rfl rfl ?_;rintro _ rfl;refine BM ?_;refine Aak ?_;refine BD ?_;refine B9 ?_;refine Aa4 ?_;refine Aam ?_;refine DX ?_;refine Ac8 ?_;refine Aaj ?_;exact AK (res2 rfl rfl rfl) rsubZ selZ ⟨rfl,.inr ⟨x,l,rfl,rfl⟩⟩
theorem lnkReceive_spec {σ:PH} {d:List UInt8} {x:Frm × Value} {l:List (Frm × Value)} {p:Option Addr} {c:Nat} {rng sent lost lo hi:Int} {n:Nat} {K:Iv} {isd:Bool} (hv:SlE (encF d) 10 σ (.slice p (x::l).length c) (x::l)) (hcap:(x::l).length≤c) (h1:∀ f∈x::l,f.2.oneCell'=true) (hC:ChOK lo hi n K isd ⟨(x::l).map (·.1),sent,lost⟩) (hlo:0≤lo) (hhi:hi≤2199023255552) (hr:1≤rng∧rng≤1048576) (hs:sent≤1000000) :
  Eng.Spec Tryz.prog (fv 208) [.agg #[int rng,.slice p (x::l).length c,int sent,int lost]] [σ] [] (fun r H'=>∃ p' c' σ',r=.tuple #[.agg #[int rng,.slice p' l.length c',int sent,int lost],.agg (encF d x).toArray,int 0]∧OwnS 283 10 (.slice p' l.length c') l.length (l.flatMap (encF d)) σ'∧H'=[σ']):=by
 have hc:=lnkCheck_spec hv h1 hC hlo hhi hr hs
 have hlen:(x::l).length≤10000:=by have:=hC.len; dsimp only at this; rw [List.length_map] at this; exact this
 have hlo2:=slE_lo (encF_len d) hv hcap (i:=1) (by simp) rfl
 obtain ⟨_,_,e0,hrd⟩:=hv.val (encF_len d)
 simp only [Value.slice.injEq] at e0
 obtain ⟨rfl,_,rfl⟩:=e0
 have hl0:(x::l).length=l.length+1:=rfl
 have hl1:(x::l).drop 1=l:=rfl
 rw [hl1,hl0,Nat.add_sub_cancel] at hlo2
 have hcl:=cloneFr_spec (d:=d) σ _ l hlo2 (by omega) (encF_ones (fun f hf=>h1 f (List.mem_cons_of_mem _ hf)))
 obtain ⟨bf,oF,rfl,hR⟩:=hrd 0 x rfl
 have hx1:=h1 x (by simp)
 obtain ⟨m0,m1,m2,m3,m4,m5,m6,m7,em,k0,k1,k2,k3,k4,k5,k6,k7⟩:=enc8 d x.1.g hx1
 have ef:encF d x=[int x.1.arr,int x.1.num,m0,m1,m2,m3,m4,m5,m6,m7]:=by unfold encF; rw [em]
 have hR:RdN σ bf (oF+0*10) [int x.1.arr,int x.1.num,m0,m1,m2,m3,m4,m5,m6,m7]:=by have h:=hR; rw [ef] at h; exact h
 have hR0:RdN σ bf oF [int x.1.arr,int x.1.num,m0,m1,m2,m3,m4,m5,m6,m7]:=by have h:=hR; rw [Nat.zero_mul] at h; exact h
 rw [ef]
 generalize (x::l).length=len at hl0 hc hcap hlen
 refine spec_in (cap:=[]) Tryz.func208 rfl rfl Tryz.ntmps208 rfl envZ (fun N β=>?_)
 refine Aa ?_;refine BJ (BL rfl) rfl rfl rfl ?_;rintro _ _ ⟨b1,rfl,rfl⟩;refine A4 ?_; rintro _ _ ⟨b,rfl,rfl⟩;refine A4 ?_; rintro _ _ ⟨b,rfl,rfl⟩;refine Ads ?_
 rename_i b2
 revert b b2; intro b3 b2
 refine AT hc rfl rfl rdZ rfl rfl ?_;rintro _ rfl;refine Aba ?_;refine Abg ?_;refine BD ?_;refine Ab8 ?_;refine Aam ?_;refine DX ?_;refine AQ ?_;refine A4 ?_; rintro _ _ ⟨b,rfl,rfl⟩;refine AY ?_; rintro _ _ ⟨rfl,rfl⟩;refine Ac4 ?_
 revert b; intro b5
 refine AS (ρ:=sng b5 _) takeZ ?_
 have fw:=rdB b5 283 [int x.1.arr,int x.1.num,m0,m1,m2,m3,m4,m5,m6,m7]
 skip
 refine BT (EO (i:=1) (s:=10) rfl rfl rfl rfl (by omega)) rfl rfl rfl ?_
 rw [show len-1=l.length from by omega]
 refine B8 hcl rfl rfl rdZ rfl rfl ?_;rintro _ σ' hO
 obtain ⟨p',c',rfl⟩:=hO.form
 refine AG ?_;refine BC ?_; rintro _ _ ⟨rfl,rfl⟩;refine Aap ?_
 refine BB (.q 0 (.p 1 (.l 2 .b (.l 3 .b (.q 4 .nil))))) [] rfl (by kernel_rfl) Sel.nil ?_
 refine BP ?_;refine D5 ?_;refine BQ ?_;refine' CO rfl _ rfl rfl _ _
 rotate_left
 ·apply BA; exact rfl; exact rfl; exact takeZ; exact oneZ; exact rfl; exact rfl
 ·rintro _ _ ⟨_,rfl⟩ w hw; exact hw.sel Sel.nil
 rintro _ _ ⟨rfl,rfl⟩
 skip
 refine BQ ?_;refine' CO rfl _ rfl rfl _ _
 rotate_left
 ·apply BA; exact rfl; exact rfl; exact takeZ; exact oneZ; exact rfl; exact rfl
 ·rintro _ _ ⟨_,rfl⟩ w hw; exact hw.sel Sel.nil
 rintro _ _ ⟨rfl,rfl⟩;refine Aaq ?_
 skip
 exact AK (H':=[σ']) (resSSE (b1:=b3) (b2:=b2) (T:=92) (U:=283) (v1:=[int rng,.slice p' l.length c',int sent,int lost]) (v2:=[int x.1.arr,int x.1.num,m0,m1,m2,m3,m4,m5,m6,m7]) rfl rfl rfl rfl rfl rfl rfl rfl (cells_own memZ) (cells_own memZ)) rsubZ selZ ⟨p',c',σ',rfl,hO,rfl⟩
theorem insertFr_spec (σ:PH) (bv:Nat) (v:Value) (l:List V10) (k:Nat) (h:V10) (hO:OwnS 283 10 v l.length (l.flatMap enc10) σ) (hk:k≤l.length) (hl:l.length≤10001) :
  Eng.Spec Tryz.prog (fv 232) [v,int k,.slice (some ⟨bv,0,none⟩) 1 1] [sng bv (.cells (enc10 h).toArray 283 (0,0))] [σ] (fun r H'=>∃ σ',OwnS 283 10 r (insL l k h).length ((insL l k h).flatMap enc10) σ'∧H'=[σ']):=by
 have hO1:=hO
 have hone:∀ u∈enc10 h,u.oneCell'=true:=by simpa using ones10 [h]
 have hrdv:RdN (sng bv (.cells (enc10 h).toArray 283 (0,0))) bv 0 (enc10 h):=rdN_sng
 refine spec_in (cap:=[]) Tryz.func232 rfl rfl Tryz.ntmps232 rfl envZ (fun N β=>?_)
 rcases hO.block with ⟨rfl,rfl,rfl⟩|⟨b,cap,cur,rfl,rfl,hcap,hcm,hcs,htk⟩
 ·have hk0:k=0:=by simpa using hk
  subst hk0;refine Acu ?_;refine CL ?_;refine Ady ?_;refine AB ?_;refine CN ?_;refine Aai ?_;refine Aar ?_
  refine BJ (CU (by_:=104) (s:=10) (news:=enc10 h) rfl rfl rfl rfl rfl rfl rfl hO1 takeZ (cells_of_mem (σ:=sng bv (.cells (enc10 h).toArray 283 (0,0))) (Mem.mem memZ) hrdv) rfl hone (by omega) (by simp only [maxLen,List.length_nil]; omega) (by simp only [List.length_nil]; omega)) rfl rfl rfl ?_
  rintro u _ ⟨σ',hO',rfl⟩;refine Aaa ?_
  exact AK (res1 rfl rfl) rsubZ selZ ⟨σ',by simpa [insL] using hO',rfl⟩
 ·by_cases hkn:k=l.length
  ·subst hkn
   refine Acu ?_;refine CL ?_;refine Ady ?_;refine AB ?_;refine CN ?_;refine Aai ?_;refine Aar ?_
   refine BJ (CU (by_:=104) (s:=10) (news:=enc10 h) rfl rfl rfl rfl rfl rfl rfl hO1 takeZ (cells_of_mem (σ:=sng bv (.cells (enc10 h).toArray 283 (0,0))) (Mem.mem memZ) hrdv) rfl hone (by omega) (by simp only [maxLen]; omega) (by omega)) rfl rfl rfl ?_
   rintro u _ ⟨σ',hO',rfl⟩;refine Aaa ?_;refine AK (res1 rfl rfl) rsubZ selZ ⟨σ',?_,rfl⟩;rw [insL_end,List.length_append,List.flatMap_append]
   simpa using hO'
  ·have hfl:(l.flatMap enc10).length=l.length*10:=flat_len enc10_len l
   have htp:cur.toList.take (k*10)=(l.take k).flatMap enc10:=by
    rw [flat_take enc10_len,← htk,List.take_take]
    congr 1
    omega
   have hdr:∀ j u,((l.drop k).flatMap enc10)[j]?=some u→cur.toList[k*10+j]?=some u:=fun j u hu=>by
    rw [flat_cut enc10_len l k hk,List.getElem?_drop,← htk] at hu
    have hlt:k*10+j<l.length*10:=by
     have:=(List.getElem?_eq_some_iff.1 hu).1
     simp at this; omega
    rwa [List.getElem?_take_of_lt hlt] at hu
   have hol:∀ u∈(l.drop k).flatMap enc10,u.oneCell'=true:=ones10 (l.drop k)
   have hdl:((l.drop k).flatMap enc10).length=(l.length-k)*10:=by rw [flat_len enc10_len,List.length_drop]
   by_cases hroom:l.length+1≤cap
   ·refine AD ?_
    refine AA ?_;refine Aca ?_;refine CL ?_;refine Ady ?_;refine AB ?_;refine Ab8 ?_;refine Aah ?_;refine AB ?_;refine BS ?_;refine AB ?_;refine FM ?_;refine Adg ?_;refine Adq ?_;refine BS ?_;refine DS ?_;refine Aa8 ?_;refine Abq ?_;refine BS ?_;refine CL ?_;rw [cutP_zero]
    skip
    rw [cutP_atE 10 (show k+1<cap by omega)]
    rotate_left; exact rfl
    refine BT (EI (s:=10) (tS:=90) (tR:=4) (e:=283) (cu1:=(enc10 h).toArray) (t1:=283) (cu2:=cur) (t2:=283) Tryz.func268 (by kernel_rfl) rfl (by kernel_rfl) (by kernel_rfl) rfl rfl rfl rfl rfl rfl rfl (Mem.mem memZ) (Mem.mem memZ) (by rw [hcs]; omega)) rfl rfl rfl ?_
    refine BE ?_;refine Aai ?_;refine AD ?_
    refine BB (.q 0 (.q 1 (.q 2 (.q 3 (.q 4 (.q 5 (.q 6 (.q 7 (.l 8 .b .nil))))))))) [] rfl (by kernel_rfl) Sel.nil ?_
    refine Abp ?_;refine AL ?_;refine FG ?_;refine CZ ?_;refine Abp ?_;refine CZ ?_
    rw [cutP_atE 10 (show k+1<cap by omega),cutP_atE 10 (show k<cap by omega)]
    rotate_left; exact rfl; exact rfl
    refine BQ (a_b rfl (DL (s:=10) (news:=(l.drop k).flatMap enc10) rfl rfl rfl rfl takeZ (cells_of_memH (σ:=sng b (.cells cur 283 (0,0))) (Mem.mem memZ) (rdN_take (by simpa using hdr))) (by rw [hdl]; congr 1; simp only [Nat.min_def]; split <;> omega) hol (by rw [hdl,hcs]; omega)) rfl rfl rfl (fun _ _ _ w hw=>hw.sel Sel.nil) ?_)
    rintro _ _ ⟨rfl,rfl⟩;refine A8 ?_;refine Aar ?_;refine CL ?_;refine AB ?_
    rw [cutP_atE 10 (show k<cap by omega)]
    rotate_left; exact rfl
    have hsz1:(cur.toList.take (0+(k+1)*10) ++ (l.drop k).flatMap enc10 ++ cur.toList.drop (0+(k+1)*10+((l.drop k).flatMap enc10).length)).length=cap*10:=by
     simp only [List.length_append,List.length_take,List.length_drop,Array.length_toList,hdl,hcs];omega
    have htk1:(cur.toList.take (0+(k+1)*10) ++ (l.drop k).flatMap enc10 ++ cur.toList.drop (0+(k+1)*10+((l.drop k).flatMap enc10).length)).take (k*10)=(l.take k).flatMap enc10:=by
     rw [List.append_assoc,List.take_append_of_le_length (by rw [List.length_take,Array.length_toList,hcs]; omega),List.take_take,← htp]
     congr 1
     omega
    have hdr1:(cur.toList.take (0+(k+1)*10) ++ (l.drop k).flatMap enc10 ++ cur.toList.drop (0+(k+1)*10+((l.drop k).flatMap enc10).length)).drop (k*10+10)=(l.drop k).flatMap enc10 ++ cur.toList.drop (0+(k+1)*10+((l.drop k).flatMap enc10).length):=by
     have e:(cur.toList.take (0+(k+1)*10)).length=k*10+10:=by rw [List.length_take,Array.length_toList,hcs]; omega
     rw [List.append_assoc,← e,List.drop_left]
    generalize hc1:cur.toList.take (0+(k+1)*10) ++ (l.drop k).flatMap enc10 ++ cur.toList.drop (0+(k+1)*10+((l.drop k).flatMap enc10).length)=c1 at hsz1 htk1 hdr1 ⊢
    refine BJ (DL (s:=10) (news:=enc10 h) rfl rfl rfl rfl takeZ (cells_of_mem (σ:=sng bv (.cells (enc10 h).toArray 283 (0,0))) (Mem.mem memZ) hrdv) (by rw [enc10_len]; simp only [Nat.min_def]; split <;> omega) hone (by rw [enc10_len,List.size_toArray,hsz1]; omega)) rfl rfl rfl ?_
    rintro _ _ ⟨rfl,rfl⟩;refine AE ?_;refine Abi ?_
    refine AK (res1 rfl rfl) rsubZ selZ ⟨_,⟨flat_len enc10_len _,.inr ⟨b,cap,_,by rw [insL_len],rfl,by rw [insL_len]; exact hroom,hcm,?_,?_⟩⟩,rfl⟩
    ·simp only [List.size_toArray,List.length_append,List.length_take,List.length_drop,enc10_len,hsz1]
     omega
    ·rw [insL_len,enc10_len]
     have:=ins_cells enc10_len l k h hk c1 htk1 (cur.toList.drop (0+(k+1)*10+((l.drop k).flatMap enc10).length))
     simp only [Nat.zero_add] at hdr1 this ⊢;rw [hdr1,← this];simp only [List.append_assoc]
   ·refine AD ?_
    refine AA ?_;refine Aca ?_;refine CL ?_;refine Ady ?_;refine AB ?_;refine Ab8 ?_;refine Aah ?_;refine AB ?_;refine BS ?_;refine AB ?_;refine FM ?_;refine DA ?_;refine Aai ?_;refine Aar ?_;refine DS ?_;refine Aao ?_;refine BS ?_;refine AB ?_;refine DM ?_
    rw [cutP_zero,show ((l.length+1:Nat):Int)-(k:Int)=((l.length+1-k:Nat):Int) from by omega]
    refine BJ (EH (by_:=104) (s:=10) (i:=k) (k:=l.length+1-k) (olds:=(l.take k).flatMap enc10) rfl rfl rfl rfl rfl rfl rfl rfl (by omega) (by omega) (cells_of_memH (σ:=sng b (.cells cur 283 (0,0))) (Mem.mem memZ) (rdN_take (fun j u hu=>?_))) (by rw [flat_len enc10_len,List.length_take,Nat.min_eq_left hk]) (by omega) (by simp only [maxLen]; omega) (by omega)) rfl rfl rfl ?_
    ·rw [← htp] at hu
     have hlt:=(List.getElem?_eq_some_iff.1 hu).1
     rw [List.length_take] at hlt
     rw [List.getElem?_take_of_lt (by omega)] at hu
     rwa [Nat.zero_add]
    rintro _ _ ⟨b3,cap3,cu3,⟨rfl,rfl⟩,hc3,hm3,hs3,ht3⟩;refine Aca ?_;refine CL ?_;refine AB ?_
    rw [cutP_atE 10 (show k<cap3 by omega)]
    rotate_left; exact rfl
    refine BJ (DL (s:=10) (news:=enc10 h) rfl rfl rfl rfl takeZ (cells_of_mem (σ:=sng bv (.cells (enc10 h).toArray 283 (0,0))) (Mem.mem memZ) hrdv) (by rw [enc10_len]; simp only [Nat.min_def]; split <;> omega) hone (by rw [enc10_len,hs3]; omega)) rfl rfl rfl ?_
    rintro _ _ ⟨rfl,rfl⟩
    have hsz1:(cu3.toList.take (0+k*10) ++ enc10 h ++ cu3.toList.drop (0+k*10+(enc10 h).length)).length=cap3*10:=by
     simp only [List.length_append,List.length_take,List.length_drop,Array.length_toList,enc10_len,hs3];omega
    have htk1:(cu3.toList.take (0+k*10) ++ enc10 h ++ cu3.toList.drop (0+k*10+(enc10 h).length)).take ((k+1)*10)=(l.take k).flatMap enc10 ++ enc10 h:=by
     have e:(cu3.toList.take (0+k*10) ++ enc10 h).length=(k+1)*10:=by rw [List.length_append,List.length_take,Array.length_toList,hs3,enc10_len]; omega
     rw [← e,List.take_left,Nat.zero_add,ht3]
    generalize hc1:cu3.toList.take (0+k*10) ++ enc10 h ++ cu3.toList.drop (0+k*10+(enc10 h).length)=c1 at hsz1 htk1 ⊢
    refine Aap ?_
    refine BB (.q 0 (.q 1 (.q 2 (.q 3 (.q 4 (.q 5 (.q 6 (.q 7 (.l 8 .b .nil))))))))) [] rfl (by kernel_rfl) Sel.nil ?_
    refine Abp ?_;refine AL ?_;refine FG ?_;refine CZ ?_;refine Abp ?_;refine CZ ?_
    by_cases hk1:k+1<cap3
    rotate_left
    ·exfalso; omega
    rw [cutP_atE 10 hk1,cutP_atE 10 (show k<cap by omega)]
    rotate_left; exact rfl; exact rfl
    refine BQ (a_b rfl (DL (s:=10) (news:=(l.drop k).flatMap enc10) rfl rfl rfl rfl takeZ (cells_of_memH (σ:=sng b (.cells cur 283 (0,0))) (Mem.mem memZ) (rdN_take (by simpa using hdr))) (by rw [hdl]; congr 1; simp only [Nat.min_def]; split <;> omega) hol (by rw [hdl,List.size_toArray,hsz1]; omega)) rfl rfl rfl (fun _ _ _ w hw=>hw.sel Sel.nil) ?_)
    rintro _ _ ⟨rfl,rfl⟩;refine A8 ?_;refine Abi ?_
    refine AK (res1 rfl rfl) rsubZ selZ ⟨_,⟨flat_len enc10_len _,.inr ⟨b3,cap3,_,by rw [insL_len]; congr 1; omega,rfl,by rw [insL_len]; omega,hm3,?_,?_⟩⟩,rfl⟩
    ·simp only [List.size_toArray,List.length_append,List.length_take,List.length_drop,hdl,hsz1]
     omega
    ·rw [insL_len]
     simp only [Nat.zero_add];rw [htk1]
     have e:((l.take k).flatMap enc10 ++ enc10 h ++ (l.drop k).flatMap enc10).length=(l.length+1)*10:=by
      rw [List.length_append,List.length_append,hdl,flat_len enc10_len,enc10_len,List.length_take,Nat.min_eq_left hk]; omega
     rw [← e,List.take_left];unfold insL;rw [List.flatMap_append,List.flatMap_cons,List.append_assoc]
theorem take_snocT {α:Type} {l:List α} {i:Nat} (h:i<l.length):l.take (i+1)=l.take i ++ [l[i]]:=List.take_succ_eq_append_getElem h
theorem trIndexInt_spec (σ:PH) (u:Value) (l:List Int) (x:Int) (hu:IntsAt σ u l) (hl:l.length≤1000000) :
  Ans Tryz.prog (fv 120) [u,int x] [σ] (fun r=>∃ k:Int,r=int k∧(0≤k↔x∈l)):=by
 obtain ⟨q,c,rfl,hr⟩:=hu.val Eng.encI_len
 refine spec_in (cap:=[]) Tryz.func120 rfl rfl Tryz.ntmps120 rfl envZ (fun N β=>?_)
 refine Ab6 ?_;refine Aby ?_
 refine BU [0,1,7] (0:Nat) (fun k=>k≤l.length∧x∉l.take k) (fun k=>[(8,int k)]) (fun _=>[]) (fun k=>l.length-k) pickZ ⟨by omega,by simp⟩ covZ selZ ?_
 rintro k ⟨hk,hn⟩
 by_cases hlt:k<l.length
 ·obtain ⟨b,o,rfl,g1⟩:=hr.int (List.getElem?_eq_getElem hlt)
  by_cases he:x=l[k]
  ·refine AD ?_
   refine AA ?_;refine Abj ?_;refine Abi ?_;refine Adq ?_;refine DE ?_;refine AF ?_;refine CN ?_;refine Aai ?_;refine Abi ?_;refine AK (res1 rfl rfl) rsubZ selZ ⟨rfl,(k:Int),rfl,?_⟩
   exact ⟨fun _=>by rw [he]; exact List.getElem_mem hlt,fun _=>by omega⟩
  ·refine AD ?_
   refine AA ?_;refine Abj ?_;refine Abi ?_;refine Adq ?_;refine DE ?_;refine AF ?_;refine Ab8 ?_;refine Abf ?_
   refine BG (k+1) ⟨by omega,?_⟩ (by omega) covZ selZ
   rw [take_snocT hlt,List.mem_append,List.mem_singleton];rintro (h|h)
   ·exact hn h
   ·exact he h
 ·refine AD ?_
  refine AA ?_;refine Abw ?_;refine Aal ?_;refine AK (res1 rfl rfl) rsubZ selZ ⟨rfl,-1,rfl,?_⟩
  rw [List.take_of_length_le (by omega)] at hn
  exact ⟨fun h=>by omega,fun h=>absurd h hn⟩
theorem trContainsInt_spec (σ:PH) (u:Value) (l:List Int) (x:Int) (hu:IntsAt σ u l) (hl:l.length≤1000000) :
  Ans Tryz.prog (fv 73) [u,int x] [σ] (fun r=>r=.bool (decide (x∈l))):=by
 refine spec_in (cap:=[]) Tryz.func73 rfl rfl Tryz.ntmps73 rfl envZ (fun N β=>?_)
 refine Acu ?_;refine AT (trIndexInt_spec σ u l x hu hl) rfl rfl rdZ rfl rfl ?_;rintro _ ⟨k,rfl,hk⟩
 by_cases hm:x∈l
 ·have:=hk.2 hm
  refine C9 ?_;refine Aaa ?_
  exact AK (res1 rfl rfl) rsubZ selZ ⟨rfl,by rw [decide_eq_true hm]⟩
 ·have:k<0:=by
   apply Classical.byContradiction
   intro h
   exact hm (hk.1 (by omega))
  refine CP ?_;refine Aaa ?_
  exact AK (res1 rfl rfl) rsubZ selZ ⟨rfl,by rw [decide_eq_false hm]⟩
theorem trIndexFunc_spec (σ:PH) (u fn:Value) (l:List Int) (p:Int→Bool) (Rr:List PH) (hu:IntsAt σ u l) (hl:l.length≤1000000) (hf:∀ x∈l,Ans Tryz.prog fn [int x] Rr (fun r=>r=.bool (p x))) :
  Ans Tryz.prog (fv 267) [u,fn] (σ::Rr) (fun r=>∃ k:Int,r=int k∧(0≤k↔∃ x∈l,p x=true)):=by
 obtain ⟨q,c,rfl,hr⟩:=hu.val Eng.encI_len
 refine spec_in (cap:=[]) Tryz.func267 rfl rfl Tryz.ntmps267 rfl envZ (fun N β=>?_)
 refine Ab6 ?_;refine Aby ?_
 refine BU [0,1,7] (0:Nat) (fun k=>k≤l.length∧∀ x∈l.take k,p x=false) (fun k=>[(8,int k)]) (fun _=>[]) (fun k=>l.length-k) pickZ ⟨by omega,by simp⟩ covZ selZ ?_
 rintro k ⟨hk,hn⟩
 by_cases hlt:k<l.length
 ·obtain ⟨b,o,rfl,g1⟩:=hr.int (List.getElem?_eq_getElem hlt)
  have hfk:=hf l[k] (List.getElem_mem hlt)
  refine Abn ?_;refine Abi ?_;refine Adq ?_;refine DE ?_;refine AF ?_
  refine AT hfk rfl rfl (fun τ hτ=>.inl (by simp [hτ])) rfl rfl ?_
  rintro _ rfl
  cases he:p l[k] with
  | true =>
   refine Aai ?_;refine Abi ?_;refine AK (res1 rfl rfl) rsubZ selZ ⟨rfl,(k:Int),rfl,?_⟩
   exact ⟨fun _=>⟨l[k],List.getElem_mem hlt,he⟩,fun _=>by omega⟩
  | false =>
   refine Aag ?_;refine Abf ?_
   refine BG (k+1) ⟨by omega,?_⟩ (by omega) covZ selZ
   rw [take_snocT hlt]
   intro x hx
   rcases List.mem_append.1 hx with h|h
   ·exact hn x h
   ·rw [List.mem_singleton.1 h]; exact he
 ·refine AD ?_
  refine AA ?_;refine Abw ?_;refine Aal ?_;refine AK (res1 rfl rfl) rsubZ selZ ⟨rfl,-1,rfl,?_⟩
  rw [List.take_of_length_le (by omega)] at hn
  exact ⟨fun h=>by omega,fun ⟨x,hx,h⟩=>by rw [hn x hx] at h; simp at h⟩
theorem trContainsFunc_spec (σ:PH) (u fn:Value) (l:List Int) (p:Int→Bool) (Rr:List PH) (hu:IntsAt σ u l) (hl:l.length≤1000000) (hf:∀ x∈l,Ans Tryz.prog fn [int x] Rr (fun r=>r=.bool (p x))) :
  Ans Tryz.prog (fv 227) [u,fn] (σ::Rr) (fun r=>r=.bool (l.any p)):=by
 refine spec_in (cap:=[]) Tryz.func227 rfl rfl Tryz.ntmps227 rfl envZ (fun N β=>?_)
 refine Acu ?_
 refine AT (trIndexFunc_spec σ u fn l p Rr hu hl hf) rfl rfl (fun τ hτ=>.inl (by simp at hτ ⊢; rcases hτ with h|h <;> simp [h])) rfl rfl ?_
 rintro _ ⟨k,rfl,hk⟩
 cases hm:l.any p with
 | true =>
  have:=hk.2 (List.any_eq_true.1 hm)
  refine C9 ?_;refine Aaa ?_;exact A9 ⟨rfl,rfl⟩
 | false =>
  have:k<0:=by
   apply Classical.byContradiction
   intro h
   have:=List.any_eq_true.2 (hk.1 (by omega))
   rw [hm] at this; simp at this
  refine CP ?_;refine Aaa ?_;exact A9 ⟨rfl,rfl⟩
theorem trSearch_spec (n:Nat) (fn:Value) (p:Nat→Bool) (Rr:List PH) (hn:n≤2000000000000) (hf:∀ i,i<n→Ans Tryz.prog fn [int i] Rr (fun r=>r=.bool (p i))) (hm:∀ i j,i≤j→j<n→p i=true→p j=true) :
  Ans Tryz.prog (fv 230) [int n,fn] Rr (fun r=>∃ k:Nat,r=int k∧k≤n∧(∀ i,i<k→p i=false)∧(k<n→p k=true)):=by
 refine spec_in (cap:=[]) Tryz.func230 rfl rfl Tryz.ntmps230 rfl envZ (fun N β=>?_)
 refine Ac0 ?_;refine Aaj ?_;refine Aa2 ?_
 refine BU [0,1] (X:=Nat × Nat) (0,n) (fun x=>x.1≤x.2∧x.2≤n∧(∀ i,i<x.1→p i=false)∧(x.2<n→p x.2=true)) (fun x=>[(5,int x.1),(6,int x.2)]) (fun _=>[]) (fun x=>x.2-x.1) pickZ ⟨by dsimp only; omega,by dsimp only; omega,by dsimp only; omega,by dsimp only; omega⟩ covZ selZ ?_
 rintro ⟨i,j⟩ ⟨h1,h2,h3,h4⟩
 dsimp only at h1 h2 h3 h4 ⊢
 by_cases hlt:i<j
 ·refine AD ?_
  refine Aar ?_;refine B7 ?_;refine Aai ?_;refine AN ?_;refine A5 ?_;refine Aar ?_;refine CD ?_
  rw [show (i:Int)+(j:Int)=((i+j:Nat):Int) from by omega]
  focus ((refine' BT _ rfl rfl rfl _; rotate_left; (apply q_toU; exact rfl; exact rfl; exact rfl; omega)))
  focus ((refine' BT _ rfl rfl rfl _; rotate_left; (apply FN; exact rfl; exact rfl; decide)))
  refine FL ?_;refine Aca ?_
  refine AT (hf ((i+j) / 2) (by omega)) rfl rfl (fun τ hτ=>.inl (by simp [hτ])) rfl rfl ?_
  rintro _ rfl
  cases hp:p ((i+j) / 2) with
  | true =>
   refine BE ?_;refine AE ?_;refine AM rfl ?_;refine Ac7 ?_;refine Aaa ?_;refine BH ?_
   exact BG (i,(i+j) / 2) ⟨by dsimp only; omega,by dsimp only; omega,h3,fun _=>hp⟩ (by dsimp only; omega) covZ selZ
  | false =>
   refine BE ?_;refine Aai ?_;refine Ac7 ?_;refine BS ?_;refine Aaa ?_;refine BH ?_
   refine BG ((i+j) / 2+1,j) ⟨by dsimp only; omega,h2,fun u hu=>?_,h4⟩ (by dsimp only; omega) covZ selZ
   cases hq:p u with
   | false=>rfl
   | true =>
    have:=hm u ((i+j) / 2) (by dsimp only at hu; omega) (by omega) hq
    rw [hp] at this; simp at this
 ·have e:i=j:=by omega
  subst e;refine Aah ?_;refine AB ?_;refine BK ?_;refine Adh ?_;refine Abi ?_;exact AK (res1 rfl rfl) rsubZ selZ ⟨rfl,i,rfl,h2,h3,h4⟩
theorem lnkSend1_spec {rng sent lost x:Int} {u:Value} (hr:1≤rng∧rng≤1048576) (hx:rng≤x∧x≤2*rng) (b4:Nat) :
  Ans Tryz.prog (.func (.func 228) #[] #[.pointer (some ⟨b4,0,none⟩)]) [int x] [sng b4 (.cells #[int rng,u,int sent,int lost] 92 (0,0))] (fun r=>r=.bool false):=by
 have bx15_3:=rdB b4 92 [int rng,u,int sent,int lost]
 have f0:=rdC bx15_3 0
 obtain ⟨h1,h2⟩:=hr
 obtain ⟨h3,h4⟩:=hx
 refine spec_in (cap:=[.pointer (some ⟨b4,0,none⟩)]) Tryz.func228 rfl rfl Tryz.ntmps228 rfl envZ (fun N β=>?_)
 refine Ac0 ?_;refine Aad ?_;refine BK ?_;refine AB ?_;refine Aak ?_;refine FI ?_;refine BO ?_;refine Ac2 ?_;exact A9 ⟨rfl,rfl⟩
theorem lnkSend2_spec {σ:PH} {d:List UInt8} {F:List (Frm × Value)} {v:Value} {ar nu:Int} {m0 m1 m2 m3 m4 m5 m6 m7:Value} (hv:SlE (encF d) 10 σ v F) (hl:F.length≤1000000) (b10 b13:Nat) (i:Nat) (hi:i<F.length) :
  Ans Tryz.prog (.func (.func 231) #[] #[.pointer (some ⟨b10,0,none⟩),.pointer (some ⟨b13,0,none⟩)]) [int (i:Int)] [sng b10 (.cells #[v] 90 (0,0)),sng b13 (.cells #[int ar,int nu,m0,m1,m2,m3,m4,m5,m6,m7] 283 (0,0)),σ] (fun r=>r=.bool (decide (ar<(F[i]'hi).1.arr))):=by
 obtain ⟨q,c,rfl,hrd⟩:=hv.val (encF_len d)
 have bx42_3:=rdB b10 90 [.slice q F.length c]
 have f0:=rdC bx42_3 0
 have bx43_3:=rdB b13 283 [int ar,int nu,m0,m1,m2,m3,m4,m5,m6,m7]
 have g0:=rdC bx43_3 0
 obtain ⟨bf,oF,rfl,hR⟩:=hrd i _ (List.getElem?_eq_getElem hi)
 have y0:rdc σ bf (oF+i*10)=some (int F[i].1.arr):=RdN.get0 hR
 generalize F[i].1.arr=z at y0
 refine spec_in (cap:=[.pointer (some ⟨b10,0,none⟩),.pointer (some ⟨b13,0,none⟩)]) Tryz.func231 rfl rfl Tryz.ntmps231 rfl envZ (fun N β=>?_)
 refine Aal ?_;refine AD ?_
 refine BB P5Z [] rfl (by kernel_rfl) selZ ?_
 by_cases h:ar<z
 ·rw [decide_eq_true h]
  refine AX ?_;refine AL ?_;refine CE ?_;refine Ac1 ?_;refine Aan ?_;refine EW ?_;refine Aaq ?_
  skip
  exact A9 ⟨rfl,rfl⟩
 ·rw [decide_eq_false h]
  refine AX ?_;refine AL ?_;refine CE ?_;refine Ac1 ?_;refine Aan ?_;refine D0 ?_;refine Aaq ?_
  skip
  exact A9 ⟨rfl,rfl⟩
theorem lnkSend_spec {σ σd:PH} {d:List UInt8} {F:List (Frm × Value)} {p:Option Addr} {c:Nat} {u v:Value} {ds:List Int} {g:Msg} {rng sent lost lo hi t:Int} {n:Nat} {K:Iv} {isd:Bool} {m0 m1 m2 m3 m4 m5 m6 m7:Value} (hv:SlE (encF d) 10 σ (.slice p F.length c) F) (h1:∀ f∈F,f.2.oneCell'=true) (hC:ChOK lo hi n K isd ⟨F.map (·.1),sent,lost⟩) (hlo:0≤lo) (hhi:hi≤2199023255552) (hr:1≤rng∧rng≤1048576) (hs:sent≤100000) (hu:IntsAt σd u ds) (hdl:ds.length≤2) (hd:∀ x∈ds,rng≤x∧x≤2*rng) (ht:0≤t∧t≤1099511627776) (em:encMsg d v g=[m0,m1,m2,m3,m4,m5,m6,m7]) (hvo:v.oneCell'=true) :
  Eng.Spec Tryz.prog (fv 206) [.agg #[int rng,.slice p F.length c,int sent,int lost],int t,.agg #[m0,m1,m2,m3,m4,m5,m6,m7],u] [σ,σd] [] (fun r H'=>(10000<F.length+ds.length∧r=.tuple #[.agg #[int 0,.slice none 0 0,int 0,int 0],int 4]∧H'=[]) ∨
   (F.length+ds.length≤10000∧∃ (F':List (Frm × Value)) (p':Option Addr) (c':Nat) (σ':PH),F'.map (·.1)=insFs t sent g ds (F.map (·.1))∧(∀ f∈F',f∈F∨(f.2=v∧f.1.g=g))∧r=.tuple #[.agg #[int rng,.slice p' F'.length c',int (sent+1),int (if rng∈ds then lost else lost+1)],int 0]∧OwnS 283 10 (.slice p' F'.length c') F'.length (F'.flatMap (encF d)) σ'∧H'=[σ'])):=by
 have hck:=lnkCheck_spec hv h1 hC hlo hhi hr (by omega)
 obtain ⟨hl0,hl1⟩:=hC.lst
 dsimp only at hl0 hl1
 have hlen:F.length≤10000:=by have:=hC.len; dsimp only at this; rw [List.length_map] at this; exact this
 have hcl:=cloneFr_spec (d:=d) σ _ F hv (by omega) (encF_ones h1)
 have hon:∀ y∈[m0,m1,m2,m3,m4,m5,m6,m7],y.oneCell'=true:=fun y hy=>encMsg_ones (d:=d) (g:=g) hvo y (by rw [em]; exact hy)
 have o0:=hon m0 (by simp)
 have o1:=hon m1 (by simp)
 have o2:=hon m2 (by simp)
 have o3:=hon m3 (by simp)
 have o4:=hon m4 (by simp)
 have o5:=hon m5 (by simp)
 have o6:=hon m6 (by simp)
 have o7:=hon m7 (by simp)
 have hcf:=fun b4=>trContainsFunc_spec σd u (.func (.func 228) #[] #[.pointer (some ⟨b4,0,none⟩)]) ds (fun _=>false) [sng b4 (.cells #[int rng,.slice p F.length c,int sent,int lost] 92 (0,0))] hu (by omega) (fun x hx=>lnkSend1_spec (sent:=sent) (lost:=lost) hr (hd x hx) b4)
 have hany:ds.any (fun _=>false)=false:=List.any_eq_false.2 (fun _ _=>by simp)
 rw [hany] at hcf
 have hci:=trContainsInt_spec σd u ds rng hu (by omega)
 obtain ⟨pu,cu,rfl,hru⟩:=hu.val Eng.encI_len
 obtain ⟨h3,h4⟩:=hr
 obtain ⟨h5,h6⟩:=ht
 refine spec_in (cap:=[]) Tryz.func206 rfl rfl Tryz.ntmps206 rfl envZ (fun N β=>?_)
 refine Aa ?_;refine BJ (BL rfl) rfl rfl rfl ?_;rintro _ _ ⟨b4,rfl,rfl⟩;refine BJ (BL rfl) rfl rfl rfl ?_;rintro _ _ ⟨b6,rfl,rfl⟩;refine AS (ρ:=sng b6 _) takeZ ?_
 have sw:=rdB b6 54 [m0,m1,m2,m3,m4,m5,m6,m7]
 refine A4 ?_; rintro _ _ ⟨b,rfl,rfl⟩;refine Ads ?_
 revert b; intro b8
 refine AT hck rfl rfl rdZ rfl rfl ?_;rintro _ rfl;refine Add ?_;refine BK ?_;refine Aao ?_;refine BO ?_;refine AP ?_;refine Aao ?_;refine BZ ?_;refine AT (hcf b4) rfl rfl rdZ rfl rfl ?_;rintro _ rfl
 by_cases hbig:10000<F.length+ds.length
 ·refine AP ?_
  refine Aag ?_;refine Abg ?_;refine BD ?_;refine AB ?_;refine BD ?_;refine CD ?_;refine DA ?_;refine Acy ?_;refine B6 ?_;refine AY ?_; rintro _ _ ⟨rfl,rfl⟩;refine Aaa ?_;exact AK (H':=[]) (resSE (b1:=b8) (T:=92) (v1:=[int 0,.slice none 0 0,int 0,int 0]) rfl rfl rfl rfl rfl (cells_own memZ)) rsubZ selZ (.inl ⟨hbig,rfl,rfl⟩)
 refine Aa4 ?_;refine Abg ?_;refine BD ?_;refine AB ?_;refine BD ?_;refine CD ?_;refine Adg ?_;refine Aam ?_;refine B8 hcl rfl rfl rdZ rfl rfl ?_;rintro _ σ1 hO1
 obtain ⟨p1,c1,rfl⟩:=hO1.form
 refine CQ ?_; rintro _ _ ⟨b,rfl,rfl⟩;refine BC ?_; rintro _ _ ⟨rfl,rfl⟩;refine Adi ?_;refine Aby ?_
 revert b; intro b10
 have hF1:∀ f∈F,f∈F∨(f.2=v∧f.1.g=g):=fun f hf=>.inl hf
 refine BU [1,3,4,6,8,10,42,43] (X:=Nat × List (Frm × Value) × Option Addr × Nat × PH) (0,F,p1,c1,σ1) (fun z=>z.1≤ds.length∧z.2.1.map (·.1)=insFs t sent g (ds.take z.1) (F.map (·.1))∧(∀ f∈z.2.1,f∈F∨(f.2=v∧f.1.g=g))∧OwnS 283 10 (.slice z.2.2.1 z.2.1.length z.2.2.2.1) z.2.1.length (z.2.1.flatMap (encF d)) z.2.2.2.2∧z.2.1.length=F.length+z.1) (fun z=>[(44,int (z.1:Int))]) (fun z=>[sng b10 (.cells #[.slice z.2.2.1 z.2.1.length z.2.2.2.1] 90 (0,0)),z.2.2.2.2,sng b8 (.cells #[int 0,.slice none 0 0,int 0,int 0] 92 (0,0)),sng b4 (.cells #[int rng,.slice p F.length c,int sent,int lost] 92 (0,0))]) (fun z=>ds.length-z.1) pickZ ⟨Nat.zero_le _,rfl,hF1,hO1,rfl⟩ covZ selZ ?_
 rintro ⟨k,Fk,pk,ck,σk⟩ ⟨hk,hmk,hik,hOk,hlk⟩
 dsimp only at hk hmk hik hOk hlk ⊢
 have h1k:∀ f∈Fk,f.2.oneCell'=true:=fun f hf=>by
  rcases hik f hf with h|⟨h,_⟩
  ·exact h1 f h
  ·rw [h]; exact hvo
 by_cases hlt:k<ds.length
 ·have hx:=List.getElem?_eq_getElem hlt
  have hxd:=hd _ (List.getElem_mem hlt)
  obtain ⟨bu,ou,rfl,gu⟩:=hru.int hx
  generalize ds[k]=x at hx hxd gu
  obtain ⟨hxd1,hxd2⟩:=hxd
  have hse:=fun b13 i hi=>lnkSend2_spec (ar:=t+x) (nu:=sent) (m0:=m0) (m1:=m1) (m2:=m2) (m3:=m3) (m4:=m4) (m5:=m5) (m6:=m6) (m7:=m7) hOk.at (by omega) b10 b13 i hi
  have hsrt:=(insFs_ok t sent g (ds.take k) (F.map (·.1)) hC.srt).1
  rw [← hmk,List.pairwise_map] at hsrt
  have hsch:=fun b13=>trSearch_spec Fk.length (.func (.func 231) #[] #[.pointer (some ⟨b10,0,none⟩),.pointer (some ⟨b13,0,none⟩)]) (fun i=>if h:i<Fk.length then decide (t+x<(Fk[i]'h).1.arr) else true) [sng b10 (.cells #[.slice pk Fk.length ck] 90 (0,0)),sng b13 (.cells #[int (t+x),int sent,m0,m1,m2,m3,m4,m5,m6,m7] 283 (0,0)),σk] (by omega) (fun i hi=>by rw [dif_pos hi]; exact hse b13 i hi) (fun i j hij hj hp=>by
   rw [dif_pos (by omega),decide_eq_true_iff] at hp
   rw [dif_pos hj,decide_eq_true_iff]
   rcases Nat.eq_or_lt_of_le hij with rfl|hij
   ·exact hp
   ·have:=List.pairwise_iff_getElem.1 hsrt i j (by omega) hj hij
    omega)
  have h10:∀ y∈[int (t+x),int sent,m0,m1,m2,m3,m4,m5,m6,m7],y.oneCell'=true:=fun y hy=>by
   rcases List.mem_cons.1 hy with rfl|hy
   ·rfl
   rcases List.mem_cons.1 hy with rfl|hy
   ·rfl
   ·exact hon y hy
  have e10:enc10 ⟨int (t+x),int sent,m0,m1,m2,m3,m4,m5,m6,m7,h10⟩=encF d (⟨t+x,sent,g⟩,v):=by
   show [int (t+x),int sent,m0,m1,m2,m3,m4,m5,m6,m7]=int (t+x)::int sent::encMsg d v g
   rw [em]
  have hins:=fun bn k1 hk1=>insertFr_spec σk bn (.slice pk Fk.length ck) (Fk.map (to10 d)) k1 ⟨int (t+x),int sent,m0,m1,m2,m3,m4,m5,m6,m7,h10⟩ (by rw [List.length_map,flat10 h1k]; exact hOk) (by rw [List.length_map]; exact hk1) (by rw [List.length_map]; omega)
  refine Acc ?_;refine DE ?_;refine AF ?_;refine Aca ?_;refine CD ?_;refine Aad ?_;refine AQ ?_
  focus ((refine BT (CM (out:=[int (t+x),int sent,m0,m1,m2,m3,m4,m5,m6,m7]) rfl rfl rfl rfl rfl) rfl rfl rfl ?_))
  refine A4 ?_; rintro _ _ ⟨b,rfl,rfl⟩;refine AY ?_; rintro _ _ ⟨rfl,rfl⟩;refine AE ?_;refine Ac ?_;refine BD ?_;refine BZ ?_
  revert b; intro b13
  refine AS (ρ:=sng b13 (.cells #[int (t+x),int sent,m0,m1,m2,m3,m4,m5,m6,m7] 283 (0,0))) takeZ ?_
  have nw:=rdB b13 283 [int (t+x),int sent,m0,m1,m2,m3,m4,m5,m6,m7]
  skip
  refine AT (hsch b13) rfl rfl rdZ rfl rfl ?_;rintro _ ⟨k1,rfl,hk1,hb1,hb2⟩;refine Aaa ?_;refine AA ?_;refine AF ?_;refine AB ?_;refine AQ ?_
  have hfl:Flat [.agg #[int (t+x),int sent,m0,m1,m2,m3,m4,m5,m6,m7]] [int (t+x),int sent,m0,m1,m2,m3,m4,m5,m6,m7]:=Flat.agg (ws:=[int (t+x),int sent,m0,m1,m2,m3,m4,m5,m6,m7]) Flat.nil
  refine BJ (BW (cs:=[int (t+x),int sent,m0,m1,m2,m3,m4,m5,m6,m7]) rfl rfl rfl rfl rfl oneZ hfl rfl) rfl rfl rfl ?_;rintro _ _ ⟨bn,rfl,rfl⟩;refine BI (hins bn k1 hk1) rfl rfl takesZ rdZ rfl rfl ?_;rintro rr _ ⟨σ2,hO2,rfl⟩;rw [insL_enc h1k e10] at hO2
  have hl2:(insL (Fk.map (to10 d)) k1 ⟨int (t+x),int sent,m0,m1,m2,m3,m4,m5,m6,m7,h10⟩).length=(insL Fk k1 ((⟨t+x,sent,g⟩:Frm),v)).length:=by rw [insL_len,insL_len,List.length_map]
  rw [hl2] at hO2
  obtain ⟨p2,c2,rfl⟩:=hO2.form
  refine BC ?_; rintro _ _ ⟨rfl,rfl⟩;refine Adp ?_;refine CR ?_
  refine BG (k+1,insL Fk k1 ((⟨t+x,sent,g⟩:Frm),v),p2,c2,σ2) ⟨by dsimp only; omega,?_,?_,hO2,?_⟩ (by dsimp only; omega) covZ selZ
  ·dsimp only
   rw [insL_map,List.take_add_one,hx]
   show _=insFs t sent g (ds.take k ++ [x]) _
   rw [insFs_snoc,← hmk]
   refine (insF_at _ _ k1 (by rw [List.length_map]; exact hk1) (fun i y hi hy=>?_) (fun y hy=>?_)).symm
   ·have hb:=hb1 i hi
    rw [List.getElem?_map] at hy
    obtain ⟨z,hz,rfl⟩:=Option.map_eq_some_iff.1 hy
    obtain ⟨hil,hz2⟩:=List.getElem?_eq_some_iff.1 hz
    rw [dif_pos hil,hz2] at hb
    simpa using hb
   ·rw [List.getElem?_map] at hy
    obtain ⟨z,hz,rfl⟩:=Option.map_eq_some_iff.1 hy
    obtain ⟨hil,hz2⟩:=List.getElem?_eq_some_iff.1 hz
    have hb:=hb2 hil
    rw [dif_pos hil,hz2] at hb
    simpa using hb
  ·intro f hf
   rcases insL_mem hf with rfl|hf
   ·exact .inr ⟨rfl,rfl⟩
   ·exact hik f hf
  ·dsimp only
   rw [insL_len];omega
 have hke:k=ds.length:=by omega
 subst hke;rw [List.take_length] at hmk;refine Ab5 ?_;refine Ac ?_;refine AG ?_;refine BC ?_; rintro _ _ ⟨rfl,rfl⟩;refine Ac4 ?_;refine CD ?_;refine AG ?_;refine BC ?_; rintro _ _ ⟨rfl,rfl⟩;refine Adi ?_;refine Aad ?_;refine AT hci rfl rfl rdZ rfl rfl ?_;rintro _ rfl
 by_cases hin:rng∈ds
 ·rw [decide_eq_true hin]
  refine Abr ?_;refine Aau ?_;refine AY ?_; rintro _ _ ⟨rfl,rfl⟩;refine Aaa ?_
  exact AK (H':=[σk]) (resSE (b1:=b8) (T:=92) (v1:=[int rng,.slice pk Fk.length ck,int (sent+1),int lost]) rfl rfl rfl rfl rfl (cells_own memZ)) rsubZ selZ (.inr ⟨by omega,Fk,pk,ck,σk,hmk,hik,by rw [if_pos hin],hOk,rfl⟩)
 ·rw [decide_eq_false hin]
  refine BE ?_;refine Aai ?_;refine AA ?_;refine Aad ?_;refine CD ?_;refine AG ?_;refine BC ?_; rintro _ _ ⟨rfl,rfl⟩;refine AE ?_;refine Aau ?_;refine AY ?_; rintro _ _ ⟨rfl,rfl⟩;refine Aaa ?_
  exact AK (H':=[σk]) (resSE (b1:=b8) (T:=92) (v1:=[int rng,.slice pk Fk.length ck,int (sent+1),int (lost+1)]) rfl rfl rfl rfl rfl (cells_own memZ)) rsubZ selZ (.inr ⟨by omega,Fk,pk,ck,σk,hmk,hik,by rw [if_neg hin],hOk,rfl⟩)
theorem trFull_spec {P:Par} {s:Ss} {a0 a1 a2 a3 a4 a5 a6 a7 y13 y14 y15 y16 y17 y18 y19 y20 y21 y22 y23 y24 y25 y26 y27 y28 y29 y30 y31 y32 y33 y34 y35 y36 y37 y38 y39:Value} {pp pq:Option Addr} {cp cq:Nat} {dis:Int} (bs:Nat):Ans Tryz.prog (fv 136) [.pointer (some ⟨bs,0,none⟩)] [sng bs (.cells #[a0,a1,a2,a3,a4,a5,a6,a7,.slice pp P.picks.length cp,int P.limit,.slice pq P.dark.length cq,int s.ent,int dis,y13,y14,y15,y16,y17,y18,y19,y20,y21,y22,y23,y24,y25,y26,y27,y28,y29,y30,y31,y32,y33,y34,y35,y36,y37,y38,y39] 101 (0,0))] (fun r=>r=.bool (decide (10000≤s.ent))):=by
 have bx11_3:=rdB bs 101 [a0,a1,a2,a3,a4,a5,a6,a7,.slice pp P.picks.length cp,int P.limit,.slice pq P.dark.length cq,int s.ent,int dis,y13,y14,y15,y16,y17,y18,y19,y20,y21,y22,y23,y24,y25,y26,y27,y28,y29,y30,y31,y32,y33,y34,y35,y36,y37,y38,y39]
 have f11:=rdC bx11_3 11
 refine spec_in (cap:=[]) Tryz.func136 rfl rfl Tryz.ntmps136 rfl envZ (fun N β=>?_)
 by_cases h:10000≤s.ent
 ·rw [decide_eq_true h]
  refine Ac0 ?_;refine Abh ?_;refine C9 ?_;refine Aaa ?_;exact A9 ⟨rfl,rfl⟩
 ·rw [decide_eq_false h]
  refine Ac0 ?_;refine Abh ?_;refine CP ?_;refine Aaa ?_;exact A9 ⟨rfl,rfl⟩
theorem trDelays_spec {ρp ρd:PH} {P:Par} {s:Ss} {a0 a1 a2 a3 a4 a5 a6 a7 y13 y14 y15 y16 y17 y18 y19 y20 y21 y22 y23 y24 y25 y26 y27 y28 y29 y30 y31 y32 y33 y34 y35 y36 y37 y38 y39:Value} {pp pq:Option Addr} {cp cq:Nat} {t:Int} (hp:IntsAt ρp (.slice pp P.picks.length cp) P.picks) (hpk:∀ x∈P.picks,-9223372036854775808≤x∧x≤9223372036854775807) (hpl:P.picks.length≤1000) (hq:SpAt ρd (.slice pq P.dark.length cq) P.dark) (hq0:chkI P.dark=0) (hg:1≤P.c.g∧P.c.g≤1048576) (hen:0≤s.ent∧s.ent≤10000) (hdis:0≤s.dis∧s.dis≤1152921504606846976) (bs:Nat) :
  Eng.Spec Tryz.prog (fv 207) [.pointer (some ⟨bs,0,none⟩),int P.c.g,int t] [ρp,ρd] [sng bs (.cells #[a0,a1,a2,a3,a4,a5,a6,a7,.slice pp P.picks.length cp,int P.limit,.slice pq P.dark.length cq,int s.ent,int s.dis,y13,y14,y15,y16,y17,y18,y19,y20,y21,y22,y23,y24,y25,y26,y27,y28,y29,y30,y31,y32,y33,y34,y35,y36,y37,y38,y39] 101 (0,0))] (fun r H'=>∃ p c σ,r=.slice p (delM P s t).1.length c∧OwnS 3 1 (.slice p (delM P s t).1.length c) (delM P s t).1.length ((delM P s t).1.map int) σ∧H'=[σ,sng bs (.cells #[a0,a1,a2,a3,a4,a5,a6,a7,.slice pp P.picks.length cp,int P.limit,.slice pq P.dark.length cq,int s.ent,int (delM P s t).2,y13,y14,y15,y16,y17,y18,y19,y20,y21,y22,y23,y24,y25,y26,y27,y28,y29,y30,y31,y32,y33,y34,y35,y36,y37,y38,y39] 101 (0,0))]):=by
 have hql:=(chkI_norm hq0).1
 have hha:=trHas_spec ρd _ P.dark t hq (by omega) hq0
 obtain ⟨_,_,e0,hru⟩:=hp.val Eng.encI_len
 simp only [Value.slice.injEq] at e0
 obtain ⟨rfl,_,rfl⟩:=e0
 obtain ⟨h3,h4⟩:=hg
 obtain ⟨h5,h6⟩:=hen
 refine spec_in (cap:=[]) Tryz.func207 rfl rfl Tryz.ntmps207 rfl envZ (fun N β=>?_)
 refine CG ?_;refine Ab6 ?_;refine Abh ?_;refine AB ?_;refine AT hha rfl rfl rdZ rfl rfl ?_;rintro _ rfl
 by_cases hdark:memI P.dark t=true
 ·have hM:delM P s t=([],s.dis):=by unfold delM; rw [if_pos hdark]
  rw [hdark,hM];refine Acd ?_;exact AK (H':=[emp,sng bs (.cells #[a0,a1,a2,a3,a4,a5,a6,a7,.slice pp P.picks.length cp,int P.limit,.slice pq P.dark.length cq,int s.ent,int s.dis,y13,y14,y15,y16,y17,y18,y19,y20,y21,y22,y23,y24,y25,y26,y27,y28,y29,y30,y31,y32,y33,y34,y35,y36,y37,y38,y39] 101 (0,0))]) (res1 rfl rfl) rsubZ selZ ⟨none,0,emp,rfl,OwnS.nil _ _,rfl⟩
 have hdark2:memI P.dark t=false:=by simpa using hdark
 rw [hdark2]
 by_cases hpe:P.picks=[]
 ·have hM:delM P s t=([P.c.g],s.dis):=by unfold delM; rw [if_neg hdark,if_pos hpe]
  have hl0:P.picks.length=0:=by rw [hpe]; rfl
  rw [hM];refine Aag ?_;refine Aah ?_;refine Abh ?_;refine BD ?_;refine CN ?_;refine Aai ?_;refine Aab ?_;refine BN ?_; rintro _ _ ⟨b,rfl,rfl⟩;refine Aaa ?_
  exact AK (H':=[_,sng bs (.cells #[a0,a1,a2,a3,a4,a5,a6,a7,.slice pp P.picks.length cp,int P.limit,.slice pq P.dark.length cq,int s.ent,int s.dis,y13,y14,y15,y16,y17,y18,y19,y20,y21,y22,y23,y24,y25,y26,y27,y28,y29,y30,y31,y32,y33,y34,y35,y36,y37,y38,y39] 101 (0,0))]) (res1 rfl rfl) rsubZ selZ ⟨_,_,_,rfl,ownS_sng (cs:=[int P.c.g]) rfl (by show (1:Nat)≤maxLen; decide),rfl⟩
 have hl0:0<P.picks.length:=List.length_pos_iff.2 hpe
 obtain ⟨en,hene⟩:∃ en:Nat,s.ent=(en:Int):=⟨s.ent.toNat,by omega⟩
 have hi:=Nat.mod_lt en hl0
 have hx:=List.getElem?_eq_getElem hi
 have hxb:=hpk _ (List.getElem_mem hi)
 have hgd:P.picks.getD (s.ent.toNat % P.picks.length) 0=P.picks[en % P.picks.length]:=by
  rw [hene,Int.toNat_natCast,List.getD_eq_getElem?_getD,hx]; rfl
 obtain ⟨bu,ou,rfl,gu⟩:=hru.int hx
 generalize P.picks[en % P.picks.length]=x at hx hxb hgd gu
 have hfa:=lnkFate_spec (n:=x) (rng:=P.c.g) hxb ⟨h3,h4⟩
 have hM:delM P s t=(if (fateM x P.c.g).head?=some P.c.g then (fateM x P.c.g,s.dis) else if 0≤P.limit∧P.limit≤s.dis then ([P.c.g],s.dis) else (fateM x P.c.g,s.dis+1)):=by
  unfold delM;rw [if_neg hdark,if_neg hpe,hgd]
 have hmod:s.ent % (P.picks.length:Int)=((en % P.picks.length:Nat):Int):=by rw [hene]; exact (Int.natCast_emod _ _).symm
 rw [hM];refine Aag ?_;refine Aah ?_;refine Abh ?_;refine BD ?_;refine Ab8 ?_;refine AD ?_
 refine BB (.q 0 (.q 1 (.q 2 (.q 3 (.q 4 (.q 5 (.q 6 (.q 7 (.q 8 (.q 9 (.q 10 (.q 11 (.q 12 (.q 13 (.q 14 (.q 15 (.q 16 (.l 17 .e (.q 18 (.q 19 (.q 20 (.q 21 (.q 22 .nil))))))))))))))))))))))) [] rfl (by kernel_rfl) Sel.nil ?_
 refine Acg ?_;refine Aa0 ?_;refine C1 ?_;refine zd_rem ?_;rw [hmod];refine GV ?_;refine AX ?_;refine AL ?_;refine BQ (BX rfl hfa rfl rfl rdZ rfl rfl ?_);rintro _ _ ⟨σ,⟨p,c,rfl,hO⟩,rfl⟩
 generalize fateM x P.c.g=f at hO ⊢
 refine AL ?_;refine A7 ?_;refine A7 ?_;refine Abo ?_
 cases f with
 | nil =>
  have hl1:([]:List Int).length=0:=rfl
  rw [if_neg (show ¬ (([]:List Int).head?=some P.c.g) by simp)]
  refine Aah ?_;refine BD ?_;refine BO ?_;refine Acf ?_;refine Aa4 ?_;refine Acv ?_
  by_cases hl:0≤P.limit∧P.limit≤s.dis
  ·rw [if_pos hl]
   obtain ⟨hla,hlb⟩:=hl
   refine BB P1Z [] rfl (by kernel_rfl) Sel.nil ?_
   refine Aa0 ?_;refine EX ?_;refine AL ?_;refine Acg ?_;refine EX ?_;refine BY ?_;refine Aci ?_;refine Aab ?_;refine BN ?_; rintro _ _ ⟨b,rfl,rfl⟩;refine Aaa ?_
   exact AK (H':=[_,sng bs (.cells #[a0,a1,a2,a3,a4,a5,a6,a7,.slice (some ⟨bu,ou,none⟩) P.picks.length cp,int P.limit,.slice pq P.dark.length cq,int s.ent,int s.dis,y13,y14,y15,y16,y17,y18,y19,y20,y21,y22,y23,y24,y25,y26,y27,y28,y29,y30,y31,y32,y33,y34,y35,y36,y37,y38,y39] 101 (0,0))]) (res1 rfl rfl) rsubZ selZ ⟨_,_,_,rfl,ownS_sng (cs:=[int P.c.g]) rfl (by show (1:Nat)≤maxLen; decide),rfl⟩
  rw [if_neg hl]
  refine BB P1Z [] rfl (by kernel_rfl) Sel.nil ?_
  by_cases hla:0≤P.limit
  ·have hlb:¬ P.limit≤s.dis:=fun h=>hl ⟨hla,h⟩
   refine Aa0 ?_;refine EX ?_;refine AL ?_;refine Acg ?_;refine EY ?_;refine BY ?_;refine Ab0 ?_;refine Ad0 ?_;refine CD ?_;refine Abc ?_;refine BC ?_; rintro _ _ ⟨rfl,rfl⟩;refine AE ?_;refine Abi ?_;exact AK (H':=[σ,sng bs (.cells #[a0,a1,a2,a3,a4,a5,a6,a7,.slice (some ⟨bu,ou,none⟩) P.picks.length cp,int P.limit,.slice pq P.dark.length cq,int s.ent,int (s.dis+1),y13,y14,y15,y16,y17,y18,y19,y20,y21,y22,y23,y24,y25,y26,y27,y28,y29,y30,y31,y32,y33,y34,y35,y36,y37,y38,y39] 101 (0,0))]) (res1 rfl rfl) rsubZ selZ ⟨_,_,σ,rfl,hO,rfl⟩
  ·refine AL ?_
   refine A3 ?_;refine Aan ?_;refine EY ?_;refine Acx ?_;refine Acj ?_;refine Ab0 ?_;refine Ad0 ?_;refine CD ?_;refine Abc ?_;refine BC ?_; rintro _ _ ⟨rfl,rfl⟩;refine AE ?_;refine Abi ?_;exact AK (H':=[σ,sng bs (.cells #[a0,a1,a2,a3,a4,a5,a6,a7,.slice (some ⟨bu,ou,none⟩) P.picks.length cp,int P.limit,.slice pq P.dark.length cq,int s.ent,int (s.dis+1),y13,y14,y15,y16,y17,y18,y19,y20,y21,y22,y23,y24,y25,y26,y27,y28,y29,y30,y31,y32,y33,y34,y35,y36,y37,y38,y39] 101 (0,0))]) (res1 rfl rfl) rsubZ selZ ⟨_,_,σ,rfl,hO,rfl⟩
 | cons a l =>
  have hl1:(a::l).length=l.length+1:=rfl
  obtain ⟨bf,cf,hpf⟩:=hO.formP (by omega)
  simp only [Value.slice.injEq] at hpf
  obtain ⟨rfl,_,rfl⟩:=hpf
  have hr0:rdc σ bf 0=some (int a):=RdN.get0 (slAt_rd hO.at (by omega))
  by_cases hag:a=P.c.g
  ·rw [if_pos (show (a::l).head?=some P.c.g by rw [hag]; rfl)]
   refine Aah ?_;refine BD ?_;refine DA ?_;refine Aao ?_;refine DX ?_;refine AF ?_;refine AB ?_;refine CN ?_;refine Abk ?_;refine Abi ?_;exact AK (H':=[σ,sng bs (.cells #[a0,a1,a2,a3,a4,a5,a6,a7,.slice (some ⟨bu,ou,none⟩) P.picks.length cp,int P.limit,.slice pq P.dark.length cq,int s.ent,int s.dis,y13,y14,y15,y16,y17,y18,y19,y20,y21,y22,y23,y24,y25,y26,y27,y28,y29,y30,y31,y32,y33,y34,y35,y36,y37,y38,y39] 101 (0,0))]) (res1 rfl rfl) rsubZ selZ ⟨_,_,σ,rfl,hO,rfl⟩
  rw [if_neg (show ¬ (a::l).head?=some P.c.g by simp; exact hag)]
  refine Aah ?_;refine BD ?_;refine DA ?_;refine Aao ?_;refine DX ?_;refine AF ?_;refine AB ?_;refine B9 ?_;refine AV ?_;refine Aag ?_;refine Acv ?_
  by_cases hl:0≤P.limit∧P.limit≤s.dis
  ·rw [if_pos hl]
   obtain ⟨hla,hlb⟩:=hl
   refine BB P1Z [] rfl (by kernel_rfl) Sel.nil ?_
   refine Aa0 ?_;refine EX ?_;refine AL ?_;refine Acg ?_;refine EX ?_;refine BY ?_;refine Aci ?_;refine Aab ?_;refine BN ?_; rintro _ _ ⟨b,rfl,rfl⟩;refine Aaa ?_
   exact AK (H':=[_,sng bs (.cells #[a0,a1,a2,a3,a4,a5,a6,a7,.slice (some ⟨bu,ou,none⟩) P.picks.length cp,int P.limit,.slice pq P.dark.length cq,int s.ent,int s.dis,y13,y14,y15,y16,y17,y18,y19,y20,y21,y22,y23,y24,y25,y26,y27,y28,y29,y30,y31,y32,y33,y34,y35,y36,y37,y38,y39] 101 (0,0))]) (res1 rfl rfl) rsubZ selZ ⟨_,_,_,rfl,ownS_sng (cs:=[int P.c.g]) rfl (by show (1:Nat)≤maxLen; decide),rfl⟩
  rw [if_neg hl]
  refine BB P1Z [] rfl (by kernel_rfl) Sel.nil ?_
  by_cases hla:0≤P.limit
  ·have hlb:¬ P.limit≤s.dis:=fun h=>hl ⟨hla,h⟩
   refine Aa0 ?_;refine EX ?_;refine AL ?_;refine Acg ?_;refine EY ?_;refine BY ?_;refine Ab0 ?_;refine Ad0 ?_;refine CD ?_;refine Abc ?_;refine BC ?_; rintro _ _ ⟨rfl,rfl⟩;refine AE ?_;refine Abi ?_;exact AK (H':=[σ,sng bs (.cells #[a0,a1,a2,a3,a4,a5,a6,a7,.slice (some ⟨bu,ou,none⟩) P.picks.length cp,int P.limit,.slice pq P.dark.length cq,int s.ent,int (s.dis+1),y13,y14,y15,y16,y17,y18,y19,y20,y21,y22,y23,y24,y25,y26,y27,y28,y29,y30,y31,y32,y33,y34,y35,y36,y37,y38,y39] 101 (0,0))]) (res1 rfl rfl) rsubZ selZ ⟨_,_,σ,rfl,hO,rfl⟩
  ·refine AL ?_
   refine A3 ?_;refine Aan ?_;refine EY ?_;refine Acx ?_;refine Acj ?_;refine Ab0 ?_;refine Ad0 ?_;refine CD ?_;refine Abc ?_;refine BC ?_; rintro _ _ ⟨rfl,rfl⟩;refine AE ?_;refine Abi ?_;exact AK (H':=[σ,sng bs (.cells #[a0,a1,a2,a3,a4,a5,a6,a7,.slice (some ⟨bu,ou,none⟩) P.picks.length cp,int P.limit,.slice pq P.dark.length cq,int s.ent,int (s.dis+1),y13,y14,y15,y16,y17,y18,y19,y20,y21,y22,y23,y24,y25,y26,y27,y28,y29,y30,y31,y32,y33,y34,y35,y36,y37,y38,y39] 101 (0,0))]) (res1 rfl rfl) rsubZ selZ ⟨_,_,σ,rfl,hO,rfl⟩
def encR1 (d:List UInt8) (y:(Int × Int × Iv) × Value):List Value:=int y.1.1::encRp 0 y.1.2.1 d.length y.2
theorem trEnter0_spec {ρp ρd σ σo:PH} {P:Par} {s:Ss} {d:List UInt8} {F:List (Frm × Value)} {O:List (Int × Sg)} {p po pp pq:Option Addr} {c co cp cq:Nat} {y4 y5 y6 y7 y14 y15 y16 y17 y18 y19 y20 y21 y22 y23 y24 y25 y26 y27 y28 y29 y30 y31 y32 y33 y34 y35 y36 y37 y38 y39 v:Value} {x:Sg} {t lo hi:Int} {K:Iv} {isd:Bool} (hp:IntsAt ρp (.slice pp P.picks.length cp) P.picks) (hpk:∀ x∈P.picks,-9223372036854775808≤x∧x≤9223372036854775807) (hpl:P.picks.length≤1000) (hq:SpAt ρd (.slice pq P.dark.length cq) P.dark) (hq0:chkI P.dark=0) (hg:1≤P.c.g∧P.c.g≤1048576) (hen:0≤s.ent∧s.ent≤10000) (hdis:0≤s.dis∧s.dis≤1152921504606846976) (hdel:∀ x∈(delM P s t).1,P.c.g≤x∧x≤2*P.c.g) (ht:0≤t∧t≤1099511627776)
  (hO:OwnS 283 10 (.slice p F.length c) F.length (F.flatMap (encF d)) σ) (h1:∀ f∈F,f.2.oneCell'=true) (hFm:F.map (·.1)=s.dat.fr) (hC:ChOK lo hi P.d.length K isd s.dat) (hlo:0≤lo) (hhi:hi≤2199023255552) (hsn:s.dat.sent≤100000) (hOo:OwnS 56 9 (.slice po O.length co) O.length (O.flatMap (encO 0 d)) σo) (hOe:O=s.out0) (hol:O.length≤100000) (hvo:v.oneCell'=true) (hvn:v=.slice none 0 0) (bs:Nat) :
  Eng.Spec Tryz.prog (fv 176) [.pointer (some ⟨bs,0,none⟩),.pointer (some ⟨bs,0,none⟩),int 0,int t,.agg #[int 1,int 0,int x.sr,int (x.a:Int),int (d.length:Int),.bool (decide (1≤x.sr)),str (cutD d x.a x.b),.slice none 0 0]] [ρp,ρd] [sng bs (.cells #[int P.c.g,.slice p F.length c,int s.dat.sent,int s.dat.lost,y4,y5,y6,y7,.slice pp P.picks.length cp,int P.limit,.slice pq P.dark.length cq,int s.ent,int s.dis,.slice po O.length co,y14,y15,y16,y17,y18,y19,y20,y21,y22,y23,y24,y25,y26,y27,y28,y29,y30,y31,y32,y33,y34,y35,y36,y37,y38,y39] 101 (0,0)),σ,σo] (fun r H'=>r=.tuple #[]∧∃ (F':List (Frm × Value)) (p':Option Addr) (c':Nat) (σ':PH) (O':List (Int × Sg)) (po':Option Addr) (co':Nat) (σo':PH),F'.map (·.1)=(enter0 P s t x).dat.fr∧(∀ f∈F',f∈F∨(f.2=v∧f.1.g=(.dat x)))∧OwnS 283 10 (.slice p' F'.length c') F'.length (F'.flatMap (encF d)) σ'∧O'=(enter0 P s t x).out0∧OwnS 56 9 (.slice po' O'.length co') O'.length (O'.flatMap (encO 0 d)) σo'∧H'=[sng bs (.cells #[int P.c.g,.slice p' F'.length c',int (enter0 P s t x).dat.sent,int (enter0 P s t x).dat.lost,y4,y5,y6,y7,.slice pp P.picks.length cp,int P.limit,.slice pq P.dark.length cq,int (enter0 P s t x).ent,int (enter0 P s t x).dis,.slice po' O'.length co',y14,y15,y16,y17,y18,y19,y20,y21,y22,y23,y24,y25,y26,y27,y28,y29,y30,y31,y32,y33,y34,y35,y36,y37,y38,y39] 101 (0,0)),σ',σo']):=by
 have hC':ChOK lo hi P.d.length K isd ⟨F.map (·.1),s.dat.sent,s.dat.lost⟩:=by rw [hFm]; exact hC
 have hFl:s.dat.fr.length=F.length:=by rw [← hFm,List.length_map]
 have hl:=hC.lst
 have em:encMsg d v (.dat x)=[int 1,int 0,int x.sr,int (x.a:Int),int (d.length:Int),.bool (decide (1≤x.sr)),str (cutD d x.a x.b),.slice none 0 0]:=by rw [hvn]; rfl
 have hdl:=delM_len P s t
 refine spec_in (cap:=[]) Tryz.func176 rfl rfl Tryz.ntmps176 rfl envZ (fun N β=>?_)
 refine Aa ?_;refine BJ (BL (vs:=[int 1,int 0,int x.sr,int (x.a:Int),int (d.length:Int),.bool (decide (1≤x.sr)),str (cutD d x.a x.b),.slice none 0 0]) rfl) rfl rfl rfl ?_;rintro _ _ ⟨b9,rfl,rfl⟩;refine AS (ρ:=sng b9 _) takeZ ?_
 have cs:=rdB b9 54 [int 1,int 0,int x.sr,int (x.a:Int),int (d.length:Int),.bool (decide (1≤x.sr)),str (cutD d x.a x.b),.slice none 0 0]
 refine Adi ?_;refine AT (trFull_spec (P:=P) (s:=s) bs) rfl rfl rdZ rfl rfl ?_;rintro _ rfl
 by_cases hfull:10000≤s.ent
 ·rw [decide_eq_true hfull,enter0_full hfull]
  refine Aai ?_
  exact AK (H':=[sng bs (.cells #[int P.c.g,.slice p F.length c,int s.dat.sent,int s.dat.lost,y4,y5,y6,y7,.slice pp P.picks.length cp,int P.limit,.slice pq P.dark.length cq,int s.ent,int s.dis,.slice po O.length co,y14,y15,y16,y17,y18,y19,y20,y21,y22,y23,y24,y25,y26,y27,y28,y29,y30,y31,y32,y33,y34,y35,y36,y37,y38,y39] 101 (0,0)),σ,σo]) (res0 rfl) rsubZ selZ ⟨rfl,F,p,c,σ,O,po,co,σo,hFm,fun f hf=>.inl hf,hO,by rw [hOe],hOo,rfl⟩
 rw [decide_eq_false hfull]
 have hde:=trDelays_spec (P:=P) (s:=s) (t:=t) (a0:=int P.c.g) (a1:=.slice p F.length c) (a2:=int s.dat.sent) (a3:=int s.dat.lost) (a4:=y4) (a5:=y5) (a6:=y6) (a7:=y7) (y13:=.slice po O.length co) (y14:=y14) (y15:=y15) (y16:=y16) (y17:=y17) (y18:=y18) (y19:=y19) (y20:=y20) (y21:=y21) (y22:=y22) (y23:=y23) (y24:=y24) (y25:=y25) (y26:=y26) (y27:=y27) (y28:=y28) (y29:=y29) (y30:=y30) (y31:=y31) (y32:=y32) (y33:=y33) (y34:=y34) (y35:=y35) (y36:=y36) (y37:=y37) (y38:=y38) (y39:=y39) hp hpk hpl hq hq0 hg hen (by omega) bs
 have c5:RdN (sng bs (.cells #[int P.c.g,.slice p F.length c,int s.dat.sent,int s.dat.lost,y4,y5,y6,y7,.slice pp P.picks.length cp,int P.limit,.slice pq P.dark.length cq,int s.ent,int (delM P s t).2,.slice po O.length co,y14,y15,y16,y17,y18,y19,y20,y21,y22,y23,y24,y25,y26,y27,y28,y29,y30,y31,y32,y33,y34,y35,y36,y37,y38,y39] 101 (0,0))) bs 0 [int P.c.g,.slice p F.length c,int s.dat.sent,int s.dat.lost]:=(rdP_sng (xs:=[int P.c.g,.slice p F.length c,int s.dat.sent,int s.dat.lost,y4,y5,y6,y7,.slice pp P.picks.length cp,int P.limit,.slice pq P.dark.length cq,int s.ent,int (delM P s t).2,.slice po O.length co,y14,y15,y16,y17,y18,y19,y20,y21,y22,y23,y24,y25,y26,y27,y28,y29,y30,y31,y32,y33,y34,y35,y36,y37,y38,y39]) rfl).rd
 have c4:RdN (sng bs (.cells #[int P.c.g,.slice p F.length c,int s.dat.sent,int s.dat.lost,y4,y5,y6,y7,.slice pp P.picks.length cp,int P.limit,.slice pq P.dark.length cq,int s.ent,int s.dis,.slice po O.length co,y14,y15,y16,y17,y18,y19,y20,y21,y22,y23,y24,y25,y26,y27,y28,y29,y30,y31,y32,y33,y34,y35,y36,y37,y38,y39] 101 (0,0))) bs 0 [int P.c.g,.slice p F.length c,int s.dat.sent,int s.dat.lost]:=(rdP_sng (xs:=[int P.c.g,.slice p F.length c,int s.dat.sent,int s.dat.lost,y4,y5,y6,y7,.slice pp P.picks.length cp,int P.limit,.slice pq P.dark.length cq,int s.ent,int s.dis,.slice po O.length co,y14,y15,y16,y17,y18,y19,y20,y21,y22,y23,y24,y25,y26,y27,y28,y29,y30,y31,y32,y33,y34,y35,y36,y37,y38,y39]) rfl).rd
 refine Aag ?_;refine AD ?_
 refine DG (X:=Nat × List Value × Int × List PH) [0,1,2,3,9] (fun z=>(10000<F.length+(delM P s t).1.length∧z.2.1=[int 0,.slice none 0 0,int 0,int 0]∧z.2.2.1=4∧z.2.2.2=[])∨(F.length+(delM P s t).1.length≤10000∧z.2.2.1=0∧∃ (F':List (Frm × Value)) (p':Option Addr) (c':Nat) (σ':PH),F'.map (·.1)=insFs t s.dat.sent (.dat x) (delM P s t).1 (F.map (·.1))∧(∀ f∈F',f∈F∨(f.2=v∧f.1.g=(.dat x)))∧OwnS 283 10 (.slice p' F'.length c') F'.length (F'.flatMap (encF d)) σ'∧z.2.1=[int P.c.g,.slice p' F'.length c',int (s.dat.sent+1),int (if P.c.g∈(delM P s t).1 then s.dat.lost else s.dat.lost+1)]∧z.2.2.2=[σ'])) (fun z=>[(10,.pointer (some ⟨z.1,0,none⟩)),(11,int z.2.2.1)]) (fun z=>sng z.1 (.cells z.2.1.toArray 92 (0,0))::sng bs (.cells #[int P.c.g,.slice p F.length c,int s.dat.sent,int s.dat.lost,y4,y5,y6,y7,.slice pp P.picks.length cp,int P.limit,.slice pq P.dark.length cq,int s.ent,int (delM P s t).2,.slice po O.length co,y14,y15,y16,y17,y18,y19,y20,y21,y22,y23,y24,y25,y26,y27,y28,y29,y30,y31,y32,y33,y34,y35,y36,y37,y38,y39] 101 (0,0))::σo::σ::z.2.2.2) pickZ ?_ ?_
 ·refine BB (.p 0 (.p 1 (.p 3 (.p 4 (.q 5 (.q 6 (.q 7 (.q 8 (.q 9 (.q 10 (.l3 2 .e (.l2 11 .b (.l2 12 .e (.q 13 (.q 14 (.p 15 (.l 16 .e (.l 17 .b (.q 18 .nil)))))) 16 .e (.l 12 .e (.q 13 (.q 14 (.p 15 (.l 17 .b (.q 18 .nil))))))) 16 .e (.l 11 .b (.l 12 .e (.q 13 (.q 14 (.p 15 (.l 17 .b (.q 18 .nil)))))))) 11 .b (.l2 2 .e (.l2 12 .e (.q 13 (.q 14 (.p 15 (.l 16 .e (.l 17 .b (.q 18 .nil)))))) 16 .e (.l 12 .e (.q 13 (.q 14 (.p 15 (.l 17 .b (.q 18 .nil))))))) 16 .e (.l 2 .e (.l 12 .e (.q 13 (.q 14 (.p 15 (.l 17 .b (.q 18 .nil)))))))) 16 .e (.l2 2 .e (.l 11 .b (.l 12 .e (.q 13 (.q 14 (.p 15 (.l 17 .b (.q 18 .nil))))))) 11 .b (.l 2 .e (.l 12 .e (.q 13 (.q 14 (.p 15 (.l 17 .b (.q 18 .nil))))))))))))))))))) [] rfl (by kernel_rfl) Sel.nil ?_
  refine DB ?_;refine DF ?_;refine DB ?_;refine D5 ?_;refine AL ?_;refine Aa0 ?_;refine AL ?_;refine GQ ?_ ?_ ?_
  ·refine a_e rfl (Quiet.loud (CX rfl rfl (cellsH c4 memZ) rfl)) rfl rfl rfl (by rintro _ _ ⟨rfl,rfl⟩ w hw; exact hw) ?_
   rintro _ _ ⟨rfl,rfl⟩
   repeat' (first
    | (refine C4 ?_ ?_)
    | (refine CC ?_; rintro _ _ ⟨b,rfl,rfl⟩)
    | fail)
   ·refine CH rfl hde rfl rfl takesZ rdZ rfl rfl (fun _ _ _ w hw=>hw.sel Sel.nil) ?_
    rintro _ _ ⟨p2,c2,σ2,rfl,hO2,rfl⟩
    repeat' (first
     | (refine C4 ?_ ?_)
     | (refine CC ?_; rintro _ _ ⟨b,rfl,rfl⟩)
     | fail)
    ·refine BX rfl (lnkSend_spec (n:=P.d.length) (isd:=isd) hO.at h1 hC' hlo hhi hg hsn (ownInts hO2) hdl hdel ht em hvo) rfl rfl rdZ rfl rfl ?_
     rintro _ _ (⟨hbig,rfl,rfl⟩|⟨hok,F',p',c',σ',e1,e2,rfl,hO',rfl⟩)
     ·refine AL ?_
      refine Aaz ?_;refine B5 ?_; rintro _ _ ⟨b,rfl,rfl⟩
      revert b; intro b10
      skip
      refine BQ ?_;refine' CO rfl _ rfl rfl _ _
      rotate_left
      ·apply BA; exact rfl; exact rfl; exact takeZ; exact oneZ; exact rfl; exact rfl
      ·rintro _ _ ⟨_,rfl⟩ w hw; exact hw.sel Sel.nil
      rintro _ _ ⟨rfl,rfl⟩;refine Aaq ?_
      skip
      exact BF (b10,[int 0,.slice none 0 0,int 0,int 0],4,[]) (.inl ⟨hbig,rfl,rfl,rfl⟩) covZ selZ
     ·refine AL ?_
      refine Aaz ?_;refine B5 ?_; rintro _ _ ⟨b,rfl,rfl⟩
      revert b; intro b10
      skip
      refine BQ ?_;refine' CO rfl _ rfl rfl _ _
      rotate_left
      ·apply BA; exact rfl; exact rfl; exact takeZ; exact oneZ; exact rfl; exact rfl
      ·rintro _ _ ⟨_,rfl⟩ w hw; exact hw.sel Sel.nil
      rintro _ _ ⟨rfl,rfl⟩;refine Aaq ?_
      skip
      exact BF (b10,[int P.c.g,.slice p' F'.length c',int (s.dat.sent+1),int (if P.c.g∈(delM P s t).1 then s.dat.lost else s.dat.lost+1)],0,[σ']) (.inr ⟨hok,rfl,F',p',c',σ',e1,e2,hO',rfl,rfl⟩) covZ selZ
    ·revert b; intro b10
     refine BQ (BX rfl (lnkSend_spec (n:=P.d.length) (isd:=isd) hO.at h1 hC' hlo hhi hg hsn (ownInts hO2) hdl hdel ht em hvo) rfl rfl rdZ rfl rfl ?_);rintro _ _ (⟨hbig,rfl,rfl⟩|⟨hok,F',p',c',σ',e1,e2,rfl,hO',rfl⟩)
     ·refine AL ?_
      refine Abl ?_;refine' CO rfl _ rfl rfl _ _
      rotate_left
      ·apply BA; exact rfl; exact rfl; exact takeZ; exact oneZ; exact rfl; exact rfl
      ·rintro _ _ ⟨_,rfl⟩ w hw; exact hw.sel Sel.nil
      rintro _ _ ⟨rfl,rfl⟩;refine Aaq ?_
      skip
      exact BF (b10,[int 0,.slice none 0 0,int 0,int 0],4,[]) (.inl ⟨hbig,rfl,rfl,rfl⟩) covZ selZ
     ·refine AL ?_
      refine Abl ?_;refine' CO rfl _ rfl rfl _ _
      rotate_left
      ·apply BA; exact rfl; exact rfl; exact takeZ; exact oneZ; exact rfl; exact rfl
      ·rintro _ _ ⟨_,rfl⟩ w hw; exact hw.sel Sel.nil
      rintro _ _ ⟨rfl,rfl⟩;refine Aaq ?_
      skip
      exact BF (b10,[int P.c.g,.slice p' F'.length c',int (s.dat.sent+1),int (if P.c.g∈(delM P s t).1 then s.dat.lost else s.dat.lost+1)],0,[σ']) (.inr ⟨hok,rfl,F',p',c',σ',e1,e2,hO',rfl,rfl⟩) covZ selZ
   ·revert b; intro b10
    refine BQ (CH rfl hde rfl rfl takesZ rdZ rfl rfl (fun _ _ _ w hw=>hw.sel Sel.nil) ?_)
    rintro _ _ ⟨p2,c2,σ2,rfl,hO2,rfl⟩
    skip
    refine BQ (BX rfl (lnkSend_spec (n:=P.d.length) (isd:=isd) hO.at h1 hC' hlo hhi hg hsn (ownInts hO2) hdl hdel ht em hvo) rfl rfl rdZ rfl rfl ?_);rintro _ _ (⟨hbig,rfl,rfl⟩|⟨hok,F',p',c',σ',e1,e2,rfl,hO',rfl⟩)
    ·refine AL ?_
     refine Abl ?_;refine' CO rfl _ rfl rfl _ _
     rotate_left
     ·apply BA; exact rfl; exact rfl; exact takeZ; exact oneZ; exact rfl; exact rfl
     ·rintro _ _ ⟨_,rfl⟩ w hw; exact hw.sel Sel.nil
     rintro _ _ ⟨rfl,rfl⟩;refine Aaq ?_
     skip
     exact BF (b10,[int 0,.slice none 0 0,int 0,int 0],4,[]) (.inl ⟨hbig,rfl,rfl,rfl⟩) covZ selZ
    ·refine AL ?_
     refine Abl ?_;refine' CO rfl _ rfl rfl _ _
     rotate_left
     ·apply BA; exact rfl; exact rfl; exact takeZ; exact oneZ; exact rfl; exact rfl
     ·rintro _ _ ⟨_,rfl⟩ w hw; exact hw.sel Sel.nil
     rintro _ _ ⟨rfl,rfl⟩;refine Aaq ?_
     skip
     exact BF (b10,[int P.c.g,.slice p' F'.length c',int (s.dat.sent+1),int (if P.c.g∈(delM P s t).1 then s.dat.lost else s.dat.lost+1)],0,[σ']) (.inr ⟨hok,rfl,F',p',c',σ',e1,e2,hO',rfl,rfl⟩) covZ selZ
  ·refine CH rfl hde rfl rfl takesZ rdZ rfl rfl (fun _ _ _ w hw=>hw.sel Sel.nil) ?_
   rintro _ _ ⟨p2,c2,σ2,rfl,hO2,rfl⟩
   repeat' (first
    | (refine C4 ?_ ?_)
    | (refine CC ?_; rintro _ _ ⟨b,rfl,rfl⟩)
    | fail)
   ·refine a_e rfl (Quiet.loud (CX rfl rfl (cellsH c5 memZ) rfl)) rfl rfl rfl (by rintro _ _ ⟨rfl,rfl⟩ w hw; exact hw) ?_
    rintro _ _ ⟨rfl,rfl⟩
    repeat' (first
     | (refine C4 ?_ ?_)
     | (refine CC ?_; rintro _ _ ⟨b,rfl,rfl⟩)
     | fail)
    ·refine BX rfl (lnkSend_spec (n:=P.d.length) (isd:=isd) hO.at h1 hC' hlo hhi hg hsn (ownInts hO2) hdl hdel ht em hvo) rfl rfl rdZ rfl rfl ?_
     rintro _ _ (⟨hbig,rfl,rfl⟩|⟨hok,F',p',c',σ',e1,e2,rfl,hO',rfl⟩)
     ·refine AL ?_
      refine Aaz ?_;refine B5 ?_; rintro _ _ ⟨b,rfl,rfl⟩
      revert b; intro b10
      skip
      refine BQ ?_;refine' CO rfl _ rfl rfl _ _
      rotate_left
      ·apply BA; exact rfl; exact rfl; exact takeZ; exact oneZ; exact rfl; exact rfl
      ·rintro _ _ ⟨_,rfl⟩ w hw; exact hw.sel Sel.nil
      rintro _ _ ⟨rfl,rfl⟩;refine Aaq ?_
      skip
      exact BF (b10,[int 0,.slice none 0 0,int 0,int 0],4,[]) (.inl ⟨hbig,rfl,rfl,rfl⟩) covZ selZ
     ·refine AL ?_
      refine Aaz ?_;refine B5 ?_; rintro _ _ ⟨b,rfl,rfl⟩
      revert b; intro b10
      skip
      refine BQ ?_;refine' CO rfl _ rfl rfl _ _
      rotate_left
      ·apply BA; exact rfl; exact rfl; exact takeZ; exact oneZ; exact rfl; exact rfl
      ·rintro _ _ ⟨_,rfl⟩ w hw; exact hw.sel Sel.nil
      rintro _ _ ⟨rfl,rfl⟩;refine Aaq ?_
      skip
      exact BF (b10,[int P.c.g,.slice p' F'.length c',int (s.dat.sent+1),int (if P.c.g∈(delM P s t).1 then s.dat.lost else s.dat.lost+1)],0,[σ']) (.inr ⟨hok,rfl,F',p',c',σ',e1,e2,hO',rfl,rfl⟩) covZ selZ
    ·revert b; intro b10
     refine BQ (BX rfl (lnkSend_spec (n:=P.d.length) (isd:=isd) hO.at h1 hC' hlo hhi hg hsn (ownInts hO2) hdl hdel ht em hvo) rfl rfl rdZ rfl rfl ?_);rintro _ _ (⟨hbig,rfl,rfl⟩|⟨hok,F',p',c',σ',e1,e2,rfl,hO',rfl⟩)
     ·refine AL ?_
      refine Abl ?_;refine' CO rfl _ rfl rfl _ _
      rotate_left
      ·apply BA; exact rfl; exact rfl; exact takeZ; exact oneZ; exact rfl; exact rfl
      ·rintro _ _ ⟨_,rfl⟩ w hw; exact hw.sel Sel.nil
      rintro _ _ ⟨rfl,rfl⟩;refine Aaq ?_
      skip
      exact BF (b10,[int 0,.slice none 0 0,int 0,int 0],4,[]) (.inl ⟨hbig,rfl,rfl,rfl⟩) covZ selZ
     ·refine AL ?_
      refine Abl ?_;refine' CO rfl _ rfl rfl _ _
      rotate_left
      ·apply BA; exact rfl; exact rfl; exact takeZ; exact oneZ; exact rfl; exact rfl
      ·rintro _ _ ⟨_,rfl⟩ w hw; exact hw.sel Sel.nil
      rintro _ _ ⟨rfl,rfl⟩;refine Aaq ?_
      skip
      exact BF (b10,[int P.c.g,.slice p' F'.length c',int (s.dat.sent+1),int (if P.c.g∈(delM P s t).1 then s.dat.lost else s.dat.lost+1)],0,[σ']) (.inr ⟨hok,rfl,F',p',c',σ',e1,e2,hO',rfl,rfl⟩) covZ selZ
   ·revert b; intro b10
    refine BQ (a_e rfl (Quiet.loud (CX rfl rfl (cellsH c5 memZ) rfl)) rfl rfl rfl (by rintro _ _ ⟨rfl,rfl⟩ w hw; exact hw) ?_)
    rintro _ _ ⟨rfl,rfl⟩
    skip
    refine BQ (BX rfl (lnkSend_spec (n:=P.d.length) (isd:=isd) hO.at h1 hC' hlo hhi hg hsn (ownInts hO2) hdl hdel ht em hvo) rfl rfl rdZ rfl rfl ?_);rintro _ _ (⟨hbig,rfl,rfl⟩|⟨hok,F',p',c',σ',e1,e2,rfl,hO',rfl⟩)
    ·refine AL ?_
     refine Abl ?_;refine' CO rfl _ rfl rfl _ _
     rotate_left
     ·apply BA; exact rfl; exact rfl; exact takeZ; exact oneZ; exact rfl; exact rfl
     ·rintro _ _ ⟨_,rfl⟩ w hw; exact hw.sel Sel.nil
     rintro _ _ ⟨rfl,rfl⟩;refine Aaq ?_
     skip
     exact BF (b10,[int 0,.slice none 0 0,int 0,int 0],4,[]) (.inl ⟨hbig,rfl,rfl,rfl⟩) covZ selZ
    ·refine AL ?_
     refine Abl ?_;refine' CO rfl _ rfl rfl _ _
     rotate_left
     ·apply BA; exact rfl; exact rfl; exact takeZ; exact oneZ; exact rfl; exact rfl
     ·rintro _ _ ⟨_,rfl⟩ w hw; exact hw.sel Sel.nil
     rintro _ _ ⟨rfl,rfl⟩;refine Aaq ?_
     skip
     exact BF (b10,[int P.c.g,.slice p' F'.length c',int (s.dat.sent+1),int (if P.c.g∈(delM P s t).1 then s.dat.lost else s.dat.lost+1)],0,[σ']) (.inr ⟨hok,rfl,F',p',c',σ',e1,e2,hO',rfl,rfl⟩) covZ selZ
  ·refine a_e rfl (C5 rfl) rfl rfl rfl (by rintro _ _ ⟨b,rfl,rfl⟩ w hw; exact hw.tail) ?_
   rintro _ _ ⟨b10,rfl,rfl⟩
   repeat' (first
    | (refine C4 ?_ ?_)
    | fail)
   ·refine a_e rfl (Quiet.loud (CX rfl rfl (cellsH c4 memZ) rfl)) rfl rfl rfl (by rintro _ _ ⟨rfl,rfl⟩ w hw; exact hw) ?_
    rintro _ _ ⟨rfl,rfl⟩
    skip
    refine BQ (CH rfl hde rfl rfl takesZ rdZ rfl rfl (fun _ _ _ w hw=>hw.sel Sel.nil) ?_)
    rintro _ _ ⟨p2,c2,σ2,rfl,hO2,rfl⟩
    skip
    refine BQ (BX rfl (lnkSend_spec (n:=P.d.length) (isd:=isd) hO.at h1 hC' hlo hhi hg hsn (ownInts hO2) hdl hdel ht em hvo) rfl rfl rdZ rfl rfl ?_);rintro _ _ (⟨hbig,rfl,rfl⟩|⟨hok,F',p',c',σ',e1,e2,rfl,hO',rfl⟩)
    ·refine AL ?_
     refine Abl ?_;refine' CO rfl _ rfl rfl _ _
     rotate_left
     ·apply BA; exact rfl; exact rfl; exact takeZ; exact oneZ; exact rfl; exact rfl
     ·rintro _ _ ⟨_,rfl⟩ w hw; exact hw.sel Sel.nil
     rintro _ _ ⟨rfl,rfl⟩;refine Aaq ?_
     skip
     exact BF (b10,[int 0,.slice none 0 0,int 0,int 0],4,[]) (.inl ⟨hbig,rfl,rfl,rfl⟩) covZ selZ
    ·refine AL ?_
     refine Abl ?_;refine' CO rfl _ rfl rfl _ _
     rotate_left
     ·apply BA; exact rfl; exact rfl; exact takeZ; exact oneZ; exact rfl; exact rfl
     ·rintro _ _ ⟨_,rfl⟩ w hw; exact hw.sel Sel.nil
     rintro _ _ ⟨rfl,rfl⟩;refine Aaq ?_
     skip
     exact BF (b10,[int P.c.g,.slice p' F'.length c',int (s.dat.sent+1),int (if P.c.g∈(delM P s t).1 then s.dat.lost else s.dat.lost+1)],0,[σ']) (.inr ⟨hok,rfl,F',p',c',σ',e1,e2,hO',rfl,rfl⟩) covZ selZ
   ·refine CH rfl hde rfl rfl takesZ rdZ rfl rfl (fun _ _ _ w hw=>hw.sel Sel.nil) ?_
    rintro _ _ ⟨p2,c2,σ2,rfl,hO2,rfl⟩
    skip
    refine BQ (a_e rfl (Quiet.loud (CX rfl rfl (cellsH c5 memZ) rfl)) rfl rfl rfl (by rintro _ _ ⟨rfl,rfl⟩ w hw; exact hw) ?_)
    rintro _ _ ⟨rfl,rfl⟩
    skip
    refine BQ (BX rfl (lnkSend_spec (n:=P.d.length) (isd:=isd) hO.at h1 hC' hlo hhi hg hsn (ownInts hO2) hdl hdel ht em hvo) rfl rfl rdZ rfl rfl ?_);rintro _ _ (⟨hbig,rfl,rfl⟩|⟨hok,F',p',c',σ',e1,e2,rfl,hO',rfl⟩)
    ·refine AL ?_
     refine Abl ?_;refine' CO rfl _ rfl rfl _ _
     rotate_left
     ·apply BA; exact rfl; exact rfl; exact takeZ; exact oneZ; exact rfl; exact rfl
     ·rintro _ _ ⟨_,rfl⟩ w hw; exact hw.sel Sel.nil
     rintro _ _ ⟨rfl,rfl⟩;refine Aaq ?_
     skip
     exact BF (b10,[int 0,.slice none 0 0,int 0,int 0],4,[]) (.inl ⟨hbig,rfl,rfl,rfl⟩) covZ selZ
    ·refine AL ?_
     refine Abl ?_;refine' CO rfl _ rfl rfl _ _
     rotate_left
     ·apply BA; exact rfl; exact rfl; exact takeZ; exact oneZ; exact rfl; exact rfl
     ·rintro _ _ ⟨_,rfl⟩ w hw; exact hw.sel Sel.nil
     rintro _ _ ⟨rfl,rfl⟩;refine Aaq ?_
     skip
     exact BF (b10,[int P.c.g,.slice p' F'.length c',int (s.dat.sent+1),int (if P.c.g∈(delM P s t).1 then s.dat.lost else s.dat.lost+1)],0,[σ']) (.inr ⟨hok,rfl,F',p',c',σ',e1,e2,hO',rfl,rfl⟩) covZ selZ
 rintro ⟨b10,vs,code,Hl⟩ hz
 dsimp only at hz ⊢
 rcases hz with ⟨hbig,rfl,rfl,rfl⟩|⟨hok,rfl,F',p',c',σ',e1,e2,hO',rfl,rfl⟩
 ·rw [enter0_none hfull (by rw [hFl]; exact hbig)]
  refine Aah ?_;refine C8 ?_;refine Aai ?_
  exact AK (H':=[sng bs (.cells #[int P.c.g,.slice p F.length c,int s.dat.sent,int s.dat.lost,y4,y5,y6,y7,.slice pp P.picks.length cp,int P.limit,.slice pq P.dark.length cq,int s.ent,int (delM P s t).2,.slice po O.length co,y14,y15,y16,y17,y18,y19,y20,y21,y22,y23,y24,y25,y26,y27,y28,y29,y30,y31,y32,y33,y34,y35,y36,y37,y38,y39] 101 (0,0)),σ,σo]) (res0 rfl) rsubZ selZ ⟨rfl,F,p,c,σ,O,po,co,σo,hFm,fun f hf=>.inl hf,hO,by rw [hOe],hOo,rfl⟩
 rw [enter0_some hfull (by rw [hFl]; exact hok)]
 rw [hFm] at e1;refine AS (ρ:=sng b10 (.cells #[int P.c.g,.slice p' F'.length c',int (s.dat.sent+1),int (if P.c.g∈(delM P s t).1 then s.dat.lost else s.dat.lost+1)] 92 (0,0))) takeZ ?_
 have cw:=rdB b10 92 [int P.c.g,.slice p' F'.length c',int (s.dat.sent+1),int (if P.c.g∈(delM P s t).1 then s.dat.lost else s.dat.lost+1)]
 refine Ad2 ?_;refine Aab ?_;refine AQ ?_;refine AU ?_
 refine B4 (C3 (vs:=[int P.c.g,.slice p' F'.length c',int (s.dat.sent+1),int (if P.c.g∈(delM P s t).1 then s.dat.lost else s.dat.lost+1)]) rfl rfl oneZ rfl takeZ (by show 0+4≤40; omega)) rfl rfl ?_
 rintro _ _ ⟨rfl,rfl⟩
 change JK _ _ _ (sng bs (.cells #[int P.c.g,.slice p' F'.length c',int (s.dat.sent+1),int (if P.c.g∈(delM P s t).1 then s.dat.lost else s.dat.lost+1),y4,y5,y6,y7,.slice pp P.picks.length cp,int P.limit,.slice pq P.dark.length cq,int s.ent,int (delM P s t).2,.slice po O.length co,y14,y15,y16,y17,y18,y19,y20,y21,y22,y23,y24,y25,y26,y27,y28,y29,y30,y31,y32,y33,y34,y35,y36,y37,y38,y39] 101 (0,0))::_) _ _
 refine Abt ?_;refine Abh ?_;refine CD ?_;refine Abc ?_;refine BC ?_; rintro _ _ ⟨rfl,rfl⟩;refine AE ?_
 refine BB (.p 0 (.p 1 (.q 2 (.q 3 (.q 4 (.q 5 (.q 6 (.q 7 (.q 8 (.q 9 (.q 10 (.p 13 (.p 14 (.l 11 .e (.l 12 .b (.q 15 (.l 16 .b .nil))))))))))))))))) [] rfl (by kernel_rfl) Sel.nil ?_
 refine DB ?_;refine DB ?_;refine AL ?_;refine Acl ?_
 focus ((refine CJ rfl (CS (i:=0) (m:=13) (s:=1) rfl rfl rfl rfl (by decide) rfl) rfl rfl rfl rfl ?_))
 refine AX ?_;refine AL ?_;refine BP ?_
 focus ((refine CJ rfl (CM (out:=[int t,int 1,int 0,int x.sr,int (x.a:Int),int (d.length:Int),.bool (decide (1≤x.sr)),str (cutD d x.a x.b),.slice none 0 0]) rfl rfl rfl rfl rfl) rfl rfl rfl rfl ?_))
 refine DF ?_;refine E6 ?_
 have hfl:Flat [.agg #[int t,int 1,int 0,int x.sr,int (x.a:Int),int (d.length:Int),.bool (decide (1≤x.sr)),str (cutD d x.a x.b),.slice none 0 0]] [int t,int 1,int 0,int x.sr,int (x.a:Int),int (d.length:Int),.bool (decide (1≤x.sr)),str (cutD d x.a x.b),.slice none 0 0]:=Flat.agg (ws:=[int t,int 1,int 0,int x.sr,int (x.a:Int),int (d.length:Int),.bool (decide (1≤x.sr)),str (cutD d x.a x.b),.slice none 0 0]) Flat.nil
 refine BQ (a_e rfl (BW (cs:=[int t,int 1,int 0,int x.sr,int (x.a:Int),int (d.length:Int),.bool (decide (1≤x.sr)),str (cutD d x.a x.b),.slice none 0 0]) rfl rfl rfl rfl rfl oneZ hfl rfl) rfl rfl rfl (by rintro _ _ ⟨b,rfl,rfl⟩ w hw; exact hw.tail) ?_)
 rintro _ _ ⟨bn,rfl,rfl⟩
 skip
 refine BQ (a_b rfl (CU (by_:=96) (s:=9) (news:=[int t,int 1,int 0,int x.sr,int (x.a:Int),int (d.length:Int),.bool (decide (1≤x.sr)),str (cutD d x.a x.b),.slice none 0 0]) rfl rfl rfl rfl rfl rfl rfl hOo takeZ (cells_own memZ) rfl oneZ (by omega) (by simp only [maxLen]; omega) (by omega)) rfl rfl rfl (fun _ _ _ w hw=>hw.sel Sel.nil) ?_)
 rintro u1 _ ⟨σz,hO3,rfl⟩
 obtain ⟨pz,cz,rfl⟩:=hO3.form
 focus ((refine CJ rfl (CS (i:=0) (m:=13) (s:=1) rfl rfl rfl rfl (by decide) rfl) rfl rfl rfl rfl ?_))
 refine CT ?_; rintro _ _ ⟨rfl,rfl⟩;refine A8 ?_
 skip
 have hlz:(O ++ [(t,x)]).length=O.length+1:=by rw [List.length_append]; rfl
 refine BV (H':=[sng bs (.cells #[int P.c.g,.slice p' F'.length c',int (s.dat.sent+1),int (if P.c.g∈(delM P s t).1 then s.dat.lost else s.dat.lost+1),y4,y5,y6,y7,.slice pp P.picks.length cp,int P.limit,.slice pq P.dark.length cq,int (s.ent+1),int (delM P s t).2,.slice pz (O.length+1) cz,y14,y15,y16,y17,y18,y19,y20,y21,y22,y23,y24,y25,y26,y27,y28,y29,y30,y31,y32,y33,y34,y35,y36,y37,y38,y39] 101 (0,0)),σ',σz]) (res0 rfl) rsubZ selZ ⟨rfl,F',p',c',σ',O ++ [(t,x)],pz,cz,σz,e1,e2,hO',by rw [hOe],?_,by rw [hlz]⟩
 rw [hlz,List.flatMap_append];exact hO3
theorem trEnter1_spec {ρp ρd σ σo:PH} {P:Par} {s:Ss} {d:List UInt8} {F:List (Frm × Value)} {O:List ((Int × Int × Iv) × Value)} {p po pp pq:Option Addr} {c co cp cq:Nat} {y0 y1 y2 y3 y13 y15 y16 y17 y18 y19 y20 y21 y22 y23 y24 y25 y26 y27 y28 y29 y30 y31 y32 y33 y34 y35 y36 y37 y38 y39 v:Value} {sr:Int} {C:Iv} {t lo hi:Int} {K:Iv} {isd:Bool} (hp:IntsAt ρp (.slice pp P.picks.length cp) P.picks) (hpk:∀ x∈P.picks,-9223372036854775808≤x∧x≤9223372036854775807) (hpl:P.picks.length≤1000) (hq:SpAt ρd (.slice pq P.dark.length cq) P.dark) (hq0:chkI P.dark=0) (hg:1≤P.c.g∧P.c.g≤1048576) (hen:0≤s.ent∧s.ent≤10000) (hdis:0≤s.dis∧s.dis≤1152921504606846976) (hdel:∀ x∈(delM P s t).1,P.c.g≤x∧x≤2*P.c.g) (ht:0≤t∧t≤1099511627776)
  (hO:OwnS 283 10 (.slice p F.length c) F.length (F.flatMap (encF d)) σ) (h1:∀ f∈F,f.2.oneCell'=true) (hFm:F.map (·.1)=s.rep.fr) (hC:ChOK lo hi P.d.length K isd s.rep) (hlo:0≤lo) (hhi:hi≤2199023255552) (hsn:s.rep.sent≤100000) (hOo:OwnS 56 9 (.slice po O.length co) O.length (O.flatMap (encR1 d)) σo) (hOe:O.map (·.1)=s.out1) (hol:O.length≤100000) (hvo:v.oneCell'=true) (hvn:True) (bs:Nat) :
  Eng.Spec Tryz.prog (fv 176) [.pointer (some ⟨bs,0,none⟩),.pointer (some ⟨bs,4,none⟩),int 1,int t,.agg #[int 2,int 0,int sr,int 0,int (d.length:Int),.bool false,str [],v]] [ρp,ρd] [sng bs (.cells #[y0,y1,y2,y3,int P.c.g,.slice p F.length c,int s.rep.sent,int s.rep.lost,.slice pp P.picks.length cp,int P.limit,.slice pq P.dark.length cq,int s.ent,int s.dis,y13,.slice po O.length co,y15,y16,y17,y18,y19,y20,y21,y22,y23,y24,y25,y26,y27,y28,y29,y30,y31,y32,y33,y34,y35,y36,y37,y38,y39] 101 (0,0)),σ,σo] (fun r H'=>r=.tuple #[]∧∃ (F':List (Frm × Value)) (p':Option Addr) (c':Nat) (σ':PH) (O':List ((Int × Int × Iv) × Value)) (po':Option Addr) (co':Nat) (σo':PH),F'.map (·.1)=(enter1 P s t sr C).rep.fr∧(∀ f∈F',f∈F∨(f.2=v∧f.1.g=(.rep sr C)))∧OwnS 283 10 (.slice p' F'.length c') F'.length (F'.flatMap (encF d)) σ'∧O'.map (·.1)=(enter1 P s t sr C).out1∧(∀ y∈O',y∈O∨(y.2=v∧y.1.2=(sr,C)))∧OwnS 56 9 (.slice po' O'.length co') O'.length (O'.flatMap (encR1 d)) σo'∧H'=[sng bs (.cells #[y0,y1,y2,y3,int P.c.g,.slice p' F'.length c',int (enter1 P s t sr C).rep.sent,int (enter1 P s t sr C).rep.lost,.slice pp P.picks.length cp,int P.limit,.slice pq P.dark.length cq,int (enter1 P s t sr C).ent,int (enter1 P s t sr C).dis,y13,.slice po' O'.length co',y15,y16,y17,y18,y19,y20,y21,y22,y23,y24,y25,y26,y27,y28,y29,y30,y31,y32,y33,y34,y35,y36,y37,y38,y39] 101 (0,0)),σ',σo']):=by
 have hC':ChOK lo hi P.d.length K isd ⟨F.map (·.1),s.rep.sent,s.rep.lost⟩:=by rw [hFm]; exact hC
 have hFl:s.rep.fr.length=F.length:=by rw [← hFm,List.length_map]
 have hl:=hC.lst
 have em:encMsg d v (.rep sr C)=[int 2,int 0,int sr,int 0,int (d.length:Int),.bool false,str [],v]:=rfl
 have hdl:=delM_len P s t
 refine spec_in (cap:=[]) Tryz.func176 rfl rfl Tryz.ntmps176 rfl envZ (fun N β=>?_)
 refine Aa ?_;refine BJ (BL (vs:=[int 2,int 0,int sr,int 0,int (d.length:Int),.bool false,str [],v]) rfl) rfl rfl rfl ?_;rintro _ _ ⟨b9,rfl,rfl⟩;refine AS (ρ:=sng b9 _) takeZ ?_
 have cs:=rdB b9 54 [int 2,int 0,int sr,int 0,int (d.length:Int),.bool false,str [],v]
 refine Adi ?_;refine AT (trFull_spec (P:=P) (s:=s) bs) rfl rfl rdZ rfl rfl ?_;rintro _ rfl
 by_cases hfull:10000≤s.ent
 ·rw [decide_eq_true hfull,enter1_full hfull]
  refine Aai ?_
  exact AK (H':=[sng bs (.cells #[y0,y1,y2,y3,int P.c.g,.slice p F.length c,int s.rep.sent,int s.rep.lost,.slice pp P.picks.length cp,int P.limit,.slice pq P.dark.length cq,int s.ent,int s.dis,y13,.slice po O.length co,y15,y16,y17,y18,y19,y20,y21,y22,y23,y24,y25,y26,y27,y28,y29,y30,y31,y32,y33,y34,y35,y36,y37,y38,y39] 101 (0,0)),σ,σo]) (res0 rfl) rsubZ selZ ⟨rfl,F,p,c,σ,O,po,co,σo,hFm,fun f hf=>.inl hf,hO,hOe,(fun y hy=>.inl hy),hOo,rfl⟩
 rw [decide_eq_false hfull]
 have hde:=trDelays_spec (P:=P) (s:=s) (t:=t) (a0:=y0) (a1:=y1) (a2:=y2) (a3:=y3) (a4:=int P.c.g) (a5:=.slice p F.length c) (a6:=int s.rep.sent) (a7:=int s.rep.lost) (y13:=y13) (y14:=.slice po O.length co) (y15:=y15) (y16:=y16) (y17:=y17) (y18:=y18) (y19:=y19) (y20:=y20) (y21:=y21) (y22:=y22) (y23:=y23) (y24:=y24) (y25:=y25) (y26:=y26) (y27:=y27) (y28:=y28) (y29:=y29) (y30:=y30) (y31:=y31) (y32:=y32) (y33:=y33) (y34:=y34) (y35:=y35) (y36:=y36) (y37:=y37) (y38:=y38) (y39:=y39) hp hpk hpl hq hq0 hg hen (by omega) bs
 have c5:RdN (sng bs (.cells #[y0,y1,y2,y3,int P.c.g,.slice p F.length c,int s.rep.sent,int s.rep.lost,.slice pp P.picks.length cp,int P.limit,.slice pq P.dark.length cq,int s.ent,int (delM P s t).2,y13,.slice po O.length co,y15,y16,y17,y18,y19,y20,y21,y22,y23,y24,y25,y26,y27,y28,y29,y30,y31,y32,y33,y34,y35,y36,y37,y38,y39] 101 (0,0))) bs 4 [int P.c.g,.slice p F.length c,int s.rep.sent,int s.rep.lost]:=(rdP_sng (xs:=[y0,y1,y2,y3,int P.c.g,.slice p F.length c,int s.rep.sent,int s.rep.lost,.slice pp P.picks.length cp,int P.limit,.slice pq P.dark.length cq,int s.ent,int (delM P s t).2,y13,.slice po O.length co,y15,y16,y17,y18,y19,y20,y21,y22,y23,y24,y25,y26,y27,y28,y29,y30,y31,y32,y33,y34,y35,y36,y37,y38,y39]) rfl).rd
 have c4:RdN (sng bs (.cells #[y0,y1,y2,y3,int P.c.g,.slice p F.length c,int s.rep.sent,int s.rep.lost,.slice pp P.picks.length cp,int P.limit,.slice pq P.dark.length cq,int s.ent,int s.dis,y13,.slice po O.length co,y15,y16,y17,y18,y19,y20,y21,y22,y23,y24,y25,y26,y27,y28,y29,y30,y31,y32,y33,y34,y35,y36,y37,y38,y39] 101 (0,0))) bs 4 [int P.c.g,.slice p F.length c,int s.rep.sent,int s.rep.lost]:=(rdP_sng (xs:=[y0,y1,y2,y3,int P.c.g,.slice p F.length c,int s.rep.sent,int s.rep.lost,.slice pp P.picks.length cp,int P.limit,.slice pq P.dark.length cq,int s.ent,int s.dis,y13,.slice po O.length co,y15,y16,y17,y18,y19,y20,y21,y22,y23,y24,y25,y26,y27,y28,y29,y30,y31,y32,y33,y34,y35,y36,y37,y38,y39]) rfl).rd
 refine Aag ?_;refine AD ?_
 refine DG (X:=Nat × List Value × Int × List PH) [0,1,2,3,9] (fun z=>(10000<F.length+(delM P s t).1.length∧z.2.1=[int 0,.slice none 0 0,int 0,int 0]∧z.2.2.1=4∧z.2.2.2=[])∨(F.length+(delM P s t).1.length≤10000∧z.2.2.1=0∧∃ (F':List (Frm × Value)) (p':Option Addr) (c':Nat) (σ':PH),F'.map (·.1)=insFs t s.rep.sent (.rep sr C) (delM P s t).1 (F.map (·.1))∧(∀ f∈F',f∈F∨(f.2=v∧f.1.g=(.rep sr C)))∧OwnS 283 10 (.slice p' F'.length c') F'.length (F'.flatMap (encF d)) σ'∧z.2.1=[int P.c.g,.slice p' F'.length c',int (s.rep.sent+1),int (if P.c.g∈(delM P s t).1 then s.rep.lost else s.rep.lost+1)]∧z.2.2.2=[σ'])) (fun z=>[(10,.pointer (some ⟨z.1,0,none⟩)),(11,int z.2.2.1)]) (fun z=>sng z.1 (.cells z.2.1.toArray 92 (0,0))::sng bs (.cells #[y0,y1,y2,y3,int P.c.g,.slice p F.length c,int s.rep.sent,int s.rep.lost,.slice pp P.picks.length cp,int P.limit,.slice pq P.dark.length cq,int s.ent,int (delM P s t).2,y13,.slice po O.length co,y15,y16,y17,y18,y19,y20,y21,y22,y23,y24,y25,y26,y27,y28,y29,y30,y31,y32,y33,y34,y35,y36,y37,y38,y39] 101 (0,0))::σo::σ::z.2.2.2) pickZ ?_ ?_
 ·refine BB (.p 0 (.p 1 (.p 3 (.p 4 (.q 5 (.q 6 (.q 7 (.q 8 (.q 9 (.q 10 (.l3 2 .e (.l2 11 .b (.l2 12 .e (.q 13 (.q 14 (.p 15 (.l 16 .e (.l 17 .b (.q 18 .nil)))))) 16 .e (.l 12 .e (.q 13 (.q 14 (.p 15 (.l 17 .b (.q 18 .nil))))))) 16 .e (.l 11 .b (.l 12 .e (.q 13 (.q 14 (.p 15 (.l 17 .b (.q 18 .nil)))))))) 11 .b (.l2 2 .e (.l2 12 .e (.q 13 (.q 14 (.p 15 (.l 16 .e (.l 17 .b (.q 18 .nil)))))) 16 .e (.l 12 .e (.q 13 (.q 14 (.p 15 (.l 17 .b (.q 18 .nil))))))) 16 .e (.l 2 .e (.l 12 .e (.q 13 (.q 14 (.p 15 (.l 17 .b (.q 18 .nil)))))))) 16 .e (.l2 2 .e (.l 11 .b (.l 12 .e (.q 13 (.q 14 (.p 15 (.l 17 .b (.q 18 .nil))))))) 11 .b (.l 2 .e (.l 12 .e (.q 13 (.q 14 (.p 15 (.l 17 .b (.q 18 .nil))))))))))))))))))) [] rfl (by kernel_rfl) Sel.nil ?_
  refine DB ?_;refine DF ?_;refine DB ?_;refine D5 ?_;refine AL ?_;refine Aaw ?_;refine Ac1 ?_;refine AL ?_;refine GQ ?_ ?_ ?_
  ·refine a_e rfl (Quiet.loud (CX rfl rfl (cellsH c4 memZ) rfl)) rfl rfl rfl (by rintro _ _ ⟨rfl,rfl⟩ w hw; exact hw) ?_
   rintro _ _ ⟨rfl,rfl⟩
   repeat' (first
    | (refine C4 ?_ ?_)
    | (refine CC ?_; rintro _ _ ⟨b,rfl,rfl⟩)
    | fail)
   ·refine CH rfl hde rfl rfl takesZ rdZ rfl rfl (fun _ _ _ w hw=>hw.sel Sel.nil) ?_
    rintro _ _ ⟨p2,c2,σ2,rfl,hO2,rfl⟩
    repeat' (first
     | (refine C4 ?_ ?_)
     | (refine CC ?_; rintro _ _ ⟨b,rfl,rfl⟩)
     | fail)
    ·refine BX rfl (lnkSend_spec (n:=P.d.length) (isd:=isd) hO.at h1 hC' hlo hhi hg hsn (ownInts hO2) hdl hdel ht em hvo) rfl rfl rdZ rfl rfl ?_
     rintro _ _ (⟨hbig,rfl,rfl⟩|⟨hok,F',p',c',σ',e1,e2,rfl,hO',rfl⟩)
     ·refine AL ?_
      refine Aaz ?_;refine B5 ?_; rintro _ _ ⟨b,rfl,rfl⟩
      revert b; intro b10
      skip
      refine BQ ?_;refine' CO rfl _ rfl rfl _ _
      rotate_left
      ·apply BA; exact rfl; exact rfl; exact takeZ; exact oneZ; exact rfl; exact rfl
      ·rintro _ _ ⟨_,rfl⟩ w hw; exact hw.sel Sel.nil
      rintro _ _ ⟨rfl,rfl⟩;refine Aaq ?_
      skip
      exact BF (b10,[int 0,.slice none 0 0,int 0,int 0],4,[]) (.inl ⟨hbig,rfl,rfl,rfl⟩) covZ selZ
     ·refine AL ?_
      refine Aaz ?_;refine B5 ?_; rintro _ _ ⟨b,rfl,rfl⟩
      revert b; intro b10
      skip
      refine BQ ?_;refine' CO rfl _ rfl rfl _ _
      rotate_left
      ·apply BA; exact rfl; exact rfl; exact takeZ; exact oneZ; exact rfl; exact rfl
      ·rintro _ _ ⟨_,rfl⟩ w hw; exact hw.sel Sel.nil
      rintro _ _ ⟨rfl,rfl⟩;refine Aaq ?_
      skip
      exact BF (b10,[int P.c.g,.slice p' F'.length c',int (s.rep.sent+1),int (if P.c.g∈(delM P s t).1 then s.rep.lost else s.rep.lost+1)],0,[σ']) (.inr ⟨hok,rfl,F',p',c',σ',e1,e2,hO',rfl,rfl⟩) covZ selZ
    ·revert b; intro b10
     refine BQ (BX rfl (lnkSend_spec (n:=P.d.length) (isd:=isd) hO.at h1 hC' hlo hhi hg hsn (ownInts hO2) hdl hdel ht em hvo) rfl rfl rdZ rfl rfl ?_);rintro _ _ (⟨hbig,rfl,rfl⟩|⟨hok,F',p',c',σ',e1,e2,rfl,hO',rfl⟩)
     ·refine AL ?_
      refine Abl ?_;refine' CO rfl _ rfl rfl _ _
      rotate_left
      ·apply BA; exact rfl; exact rfl; exact takeZ; exact oneZ; exact rfl; exact rfl
      ·rintro _ _ ⟨_,rfl⟩ w hw; exact hw.sel Sel.nil
      rintro _ _ ⟨rfl,rfl⟩;refine Aaq ?_
      skip
      exact BF (b10,[int 0,.slice none 0 0,int 0,int 0],4,[]) (.inl ⟨hbig,rfl,rfl,rfl⟩) covZ selZ
     ·refine AL ?_
      refine Abl ?_;refine' CO rfl _ rfl rfl _ _
      rotate_left
      ·apply BA; exact rfl; exact rfl; exact takeZ; exact oneZ; exact rfl; exact rfl
      ·rintro _ _ ⟨_,rfl⟩ w hw; exact hw.sel Sel.nil
      rintro _ _ ⟨rfl,rfl⟩;refine Aaq ?_
      skip
      exact BF (b10,[int P.c.g,.slice p' F'.length c',int (s.rep.sent+1),int (if P.c.g∈(delM P s t).1 then s.rep.lost else s.rep.lost+1)],0,[σ']) (.inr ⟨hok,rfl,F',p',c',σ',e1,e2,hO',rfl,rfl⟩) covZ selZ
   ·revert b; intro b10
    refine BQ (CH rfl hde rfl rfl takesZ rdZ rfl rfl (fun _ _ _ w hw=>hw.sel Sel.nil) ?_)
    rintro _ _ ⟨p2,c2,σ2,rfl,hO2,rfl⟩
    skip
    refine BQ (BX rfl (lnkSend_spec (n:=P.d.length) (isd:=isd) hO.at h1 hC' hlo hhi hg hsn (ownInts hO2) hdl hdel ht em hvo) rfl rfl rdZ rfl rfl ?_);rintro _ _ (⟨hbig,rfl,rfl⟩|⟨hok,F',p',c',σ',e1,e2,rfl,hO',rfl⟩)
    ·refine AL ?_
     refine Abl ?_;refine' CO rfl _ rfl rfl _ _
     rotate_left
     ·apply BA; exact rfl; exact rfl; exact takeZ; exact oneZ; exact rfl; exact rfl
     ·rintro _ _ ⟨_,rfl⟩ w hw; exact hw.sel Sel.nil
     rintro _ _ ⟨rfl,rfl⟩;refine Aaq ?_
     skip
     exact BF (b10,[int 0,.slice none 0 0,int 0,int 0],4,[]) (.inl ⟨hbig,rfl,rfl,rfl⟩) covZ selZ
    ·refine AL ?_
     refine Abl ?_;refine' CO rfl _ rfl rfl _ _
     rotate_left
     ·apply BA; exact rfl; exact rfl; exact takeZ; exact oneZ; exact rfl; exact rfl
     ·rintro _ _ ⟨_,rfl⟩ w hw; exact hw.sel Sel.nil
     rintro _ _ ⟨rfl,rfl⟩;refine Aaq ?_
     skip
     exact BF (b10,[int P.c.g,.slice p' F'.length c',int (s.rep.sent+1),int (if P.c.g∈(delM P s t).1 then s.rep.lost else s.rep.lost+1)],0,[σ']) (.inr ⟨hok,rfl,F',p',c',σ',e1,e2,hO',rfl,rfl⟩) covZ selZ
  ·refine CH rfl hde rfl rfl takesZ rdZ rfl rfl (fun _ _ _ w hw=>hw.sel Sel.nil) ?_
   rintro _ _ ⟨p2,c2,σ2,rfl,hO2,rfl⟩
   repeat' (first
    | (refine C4 ?_ ?_)
    | (refine CC ?_; rintro _ _ ⟨b,rfl,rfl⟩)
    | fail)
   ·refine a_e rfl (Quiet.loud (CX rfl rfl (cellsH c5 memZ) rfl)) rfl rfl rfl (by rintro _ _ ⟨rfl,rfl⟩ w hw; exact hw) ?_
    rintro _ _ ⟨rfl,rfl⟩
    repeat' (first
     | (refine C4 ?_ ?_)
     | (refine CC ?_; rintro _ _ ⟨b,rfl,rfl⟩)
     | fail)
    ·refine BX rfl (lnkSend_spec (n:=P.d.length) (isd:=isd) hO.at h1 hC' hlo hhi hg hsn (ownInts hO2) hdl hdel ht em hvo) rfl rfl rdZ rfl rfl ?_
     rintro _ _ (⟨hbig,rfl,rfl⟩|⟨hok,F',p',c',σ',e1,e2,rfl,hO',rfl⟩)
     ·refine AL ?_
      refine Aaz ?_;refine B5 ?_; rintro _ _ ⟨b,rfl,rfl⟩
      revert b; intro b10
      skip
      refine BQ ?_;refine' CO rfl _ rfl rfl _ _
      rotate_left
      ·apply BA; exact rfl; exact rfl; exact takeZ; exact oneZ; exact rfl; exact rfl
      ·rintro _ _ ⟨_,rfl⟩ w hw; exact hw.sel Sel.nil
      rintro _ _ ⟨rfl,rfl⟩;refine Aaq ?_
      skip
      exact BF (b10,[int 0,.slice none 0 0,int 0,int 0],4,[]) (.inl ⟨hbig,rfl,rfl,rfl⟩) covZ selZ
     ·refine AL ?_
      refine Aaz ?_;refine B5 ?_; rintro _ _ ⟨b,rfl,rfl⟩
      revert b; intro b10
      skip
      refine BQ ?_;refine' CO rfl _ rfl rfl _ _
      rotate_left
      ·apply BA; exact rfl; exact rfl; exact takeZ; exact oneZ; exact rfl; exact rfl
      ·rintro _ _ ⟨_,rfl⟩ w hw; exact hw.sel Sel.nil
      rintro _ _ ⟨rfl,rfl⟩;refine Aaq ?_
      skip
      exact BF (b10,[int P.c.g,.slice p' F'.length c',int (s.rep.sent+1),int (if P.c.g∈(delM P s t).1 then s.rep.lost else s.rep.lost+1)],0,[σ']) (.inr ⟨hok,rfl,F',p',c',σ',e1,e2,hO',rfl,rfl⟩) covZ selZ
    ·revert b; intro b10
     refine BQ (BX rfl (lnkSend_spec (n:=P.d.length) (isd:=isd) hO.at h1 hC' hlo hhi hg hsn (ownInts hO2) hdl hdel ht em hvo) rfl rfl rdZ rfl rfl ?_);rintro _ _ (⟨hbig,rfl,rfl⟩|⟨hok,F',p',c',σ',e1,e2,rfl,hO',rfl⟩)
     ·refine AL ?_
      refine Abl ?_;refine' CO rfl _ rfl rfl _ _
      rotate_left
      ·apply BA; exact rfl; exact rfl; exact takeZ; exact oneZ; exact rfl; exact rfl
      ·rintro _ _ ⟨_,rfl⟩ w hw; exact hw.sel Sel.nil
      rintro _ _ ⟨rfl,rfl⟩;refine Aaq ?_
      skip
      exact BF (b10,[int 0,.slice none 0 0,int 0,int 0],4,[]) (.inl ⟨hbig,rfl,rfl,rfl⟩) covZ selZ
     ·refine AL ?_
      refine Abl ?_;refine' CO rfl _ rfl rfl _ _
      rotate_left
      ·apply BA; exact rfl; exact rfl; exact takeZ; exact oneZ; exact rfl; exact rfl
      ·rintro _ _ ⟨_,rfl⟩ w hw; exact hw.sel Sel.nil
      rintro _ _ ⟨rfl,rfl⟩;refine Aaq ?_
      skip
      exact BF (b10,[int P.c.g,.slice p' F'.length c',int (s.rep.sent+1),int (if P.c.g∈(delM P s t).1 then s.rep.lost else s.rep.lost+1)],0,[σ']) (.inr ⟨hok,rfl,F',p',c',σ',e1,e2,hO',rfl,rfl⟩) covZ selZ
   ·revert b; intro b10
    refine BQ (a_e rfl (Quiet.loud (CX rfl rfl (cellsH c5 memZ) rfl)) rfl rfl rfl (by rintro _ _ ⟨rfl,rfl⟩ w hw; exact hw) ?_)
    rintro _ _ ⟨rfl,rfl⟩
    skip
    refine BQ (BX rfl (lnkSend_spec (n:=P.d.length) (isd:=isd) hO.at h1 hC' hlo hhi hg hsn (ownInts hO2) hdl hdel ht em hvo) rfl rfl rdZ rfl rfl ?_);rintro _ _ (⟨hbig,rfl,rfl⟩|⟨hok,F',p',c',σ',e1,e2,rfl,hO',rfl⟩)
    ·refine AL ?_
     refine Abl ?_;refine' CO rfl _ rfl rfl _ _
     rotate_left
     ·apply BA; exact rfl; exact rfl; exact takeZ; exact oneZ; exact rfl; exact rfl
     ·rintro _ _ ⟨_,rfl⟩ w hw; exact hw.sel Sel.nil
     rintro _ _ ⟨rfl,rfl⟩;refine Aaq ?_
     skip
     exact BF (b10,[int 0,.slice none 0 0,int 0,int 0],4,[]) (.inl ⟨hbig,rfl,rfl,rfl⟩) covZ selZ
    ·refine AL ?_
     refine Abl ?_;refine' CO rfl _ rfl rfl _ _
     rotate_left
     ·apply BA; exact rfl; exact rfl; exact takeZ; exact oneZ; exact rfl; exact rfl
     ·rintro _ _ ⟨_,rfl⟩ w hw; exact hw.sel Sel.nil
     rintro _ _ ⟨rfl,rfl⟩;refine Aaq ?_
     skip
     exact BF (b10,[int P.c.g,.slice p' F'.length c',int (s.rep.sent+1),int (if P.c.g∈(delM P s t).1 then s.rep.lost else s.rep.lost+1)],0,[σ']) (.inr ⟨hok,rfl,F',p',c',σ',e1,e2,hO',rfl,rfl⟩) covZ selZ
  ·refine a_e rfl (C5 rfl) rfl rfl rfl (by rintro _ _ ⟨b,rfl,rfl⟩ w hw; exact hw.tail) ?_
   rintro _ _ ⟨b10,rfl,rfl⟩
   repeat' (first
    | (refine C4 ?_ ?_)
    | fail)
   ·refine a_e rfl (Quiet.loud (CX rfl rfl (cellsH c4 memZ) rfl)) rfl rfl rfl (by rintro _ _ ⟨rfl,rfl⟩ w hw; exact hw) ?_
    rintro _ _ ⟨rfl,rfl⟩
    skip
    refine BQ (CH rfl hde rfl rfl takesZ rdZ rfl rfl (fun _ _ _ w hw=>hw.sel Sel.nil) ?_)
    rintro _ _ ⟨p2,c2,σ2,rfl,hO2,rfl⟩
    skip
    refine BQ (BX rfl (lnkSend_spec (n:=P.d.length) (isd:=isd) hO.at h1 hC' hlo hhi hg hsn (ownInts hO2) hdl hdel ht em hvo) rfl rfl rdZ rfl rfl ?_);rintro _ _ (⟨hbig,rfl,rfl⟩|⟨hok,F',p',c',σ',e1,e2,rfl,hO',rfl⟩)
    ·refine AL ?_
     refine Abl ?_;refine' CO rfl _ rfl rfl _ _
     rotate_left
     ·apply BA; exact rfl; exact rfl; exact takeZ; exact oneZ; exact rfl; exact rfl
     ·rintro _ _ ⟨_,rfl⟩ w hw; exact hw.sel Sel.nil
     rintro _ _ ⟨rfl,rfl⟩;refine Aaq ?_
     skip
     exact BF (b10,[int 0,.slice none 0 0,int 0,int 0],4,[]) (.inl ⟨hbig,rfl,rfl,rfl⟩) covZ selZ
    ·refine AL ?_
     refine Abl ?_;refine' CO rfl _ rfl rfl _ _
     rotate_left
     ·apply BA; exact rfl; exact rfl; exact takeZ; exact oneZ; exact rfl; exact rfl
     ·rintro _ _ ⟨_,rfl⟩ w hw; exact hw.sel Sel.nil
     rintro _ _ ⟨rfl,rfl⟩;refine Aaq ?_
     skip
     exact BF (b10,[int P.c.g,.slice p' F'.length c',int (s.rep.sent+1),int (if P.c.g∈(delM P s t).1 then s.rep.lost else s.rep.lost+1)],0,[σ']) (.inr ⟨hok,rfl,F',p',c',σ',e1,e2,hO',rfl,rfl⟩) covZ selZ
   ·refine CH rfl hde rfl rfl takesZ rdZ rfl rfl (fun _ _ _ w hw=>hw.sel Sel.nil) ?_
    rintro _ _ ⟨p2,c2,σ2,rfl,hO2,rfl⟩
    skip
    refine BQ (a_e rfl (Quiet.loud (CX rfl rfl (cellsH c5 memZ) rfl)) rfl rfl rfl (by rintro _ _ ⟨rfl,rfl⟩ w hw; exact hw) ?_)
    rintro _ _ ⟨rfl,rfl⟩
    skip
    refine BQ (BX rfl (lnkSend_spec (n:=P.d.length) (isd:=isd) hO.at h1 hC' hlo hhi hg hsn (ownInts hO2) hdl hdel ht em hvo) rfl rfl rdZ rfl rfl ?_);rintro _ _ (⟨hbig,rfl,rfl⟩|⟨hok,F',p',c',σ',e1,e2,rfl,hO',rfl⟩)
    ·refine AL ?_
     refine Abl ?_;refine' CO rfl _ rfl rfl _ _
     rotate_left
     ·apply BA; exact rfl; exact rfl; exact takeZ; exact oneZ; exact rfl; exact rfl
     ·rintro _ _ ⟨_,rfl⟩ w hw; exact hw.sel Sel.nil
     rintro _ _ ⟨rfl,rfl⟩;refine Aaq ?_
     skip
     exact BF (b10,[int 0,.slice none 0 0,int 0,int 0],4,[]) (.inl ⟨hbig,rfl,rfl,rfl⟩) covZ selZ
    ·refine AL ?_
     refine Abl ?_;refine' CO rfl _ rfl rfl _ _
     rotate_left
     ·apply BA; exact rfl; exact rfl; exact takeZ; exact oneZ; exact rfl; exact rfl
     ·rintro _ _ ⟨_,rfl⟩ w hw; exact hw.sel Sel.nil
     rintro _ _ ⟨rfl,rfl⟩;refine Aaq ?_
     skip
     exact BF (b10,[int P.c.g,.slice p' F'.length c',int (s.rep.sent+1),int (if P.c.g∈(delM P s t).1 then s.rep.lost else s.rep.lost+1)],0,[σ']) (.inr ⟨hok,rfl,F',p',c',σ',e1,e2,hO',rfl,rfl⟩) covZ selZ
 rintro ⟨b10,vs,code,Hl⟩ hz
 dsimp only at hz ⊢
 rcases hz with ⟨hbig,rfl,rfl,rfl⟩|⟨hok,rfl,F',p',c',σ',e1,e2,hO',rfl,rfl⟩
 ·rw [enter1_none hfull (by rw [hFl]; exact hbig)]
  refine Aah ?_;refine C8 ?_;refine Aai ?_
  exact AK (H':=[sng bs (.cells #[y0,y1,y2,y3,int P.c.g,.slice p F.length c,int s.rep.sent,int s.rep.lost,.slice pp P.picks.length cp,int P.limit,.slice pq P.dark.length cq,int s.ent,int (delM P s t).2,y13,.slice po O.length co,y15,y16,y17,y18,y19,y20,y21,y22,y23,y24,y25,y26,y27,y28,y29,y30,y31,y32,y33,y34,y35,y36,y37,y38,y39] 101 (0,0)),σ,σo]) (res0 rfl) rsubZ selZ ⟨rfl,F,p,c,σ,O,po,co,σo,hFm,fun f hf=>.inl hf,hO,hOe,(fun y hy=>.inl hy),hOo,rfl⟩
 rw [enter1_some hfull (by rw [hFl]; exact hok)]
 rw [hFm] at e1;refine AS (ρ:=sng b10 (.cells #[int P.c.g,.slice p' F'.length c',int (s.rep.sent+1),int (if P.c.g∈(delM P s t).1 then s.rep.lost else s.rep.lost+1)] 92 (0,0))) takeZ ?_
 have cw:=rdB b10 92 [int P.c.g,.slice p' F'.length c',int (s.rep.sent+1),int (if P.c.g∈(delM P s t).1 then s.rep.lost else s.rep.lost+1)]
 refine Ad2 ?_;refine Aab ?_;refine AQ ?_;refine AU ?_
 refine B4 (C3 (vs:=[int P.c.g,.slice p' F'.length c',int (s.rep.sent+1),int (if P.c.g∈(delM P s t).1 then s.rep.lost else s.rep.lost+1)]) rfl rfl oneZ rfl takeZ (by show 4+4≤40; omega)) rfl rfl ?_
 rintro _ _ ⟨rfl,rfl⟩
 change JK _ _ _ (sng bs (.cells #[y0,y1,y2,y3,int P.c.g,.slice p' F'.length c',int (s.rep.sent+1),int (if P.c.g∈(delM P s t).1 then s.rep.lost else s.rep.lost+1),.slice pp P.picks.length cp,int P.limit,.slice pq P.dark.length cq,int s.ent,int (delM P s t).2,y13,.slice po O.length co,y15,y16,y17,y18,y19,y20,y21,y22,y23,y24,y25,y26,y27,y28,y29,y30,y31,y32,y33,y34,y35,y36,y37,y38,y39] 101 (0,0))::_) _ _
 refine Abt ?_;refine Abh ?_;refine CD ?_;refine Abc ?_;refine BC ?_; rintro _ _ ⟨rfl,rfl⟩;refine AE ?_
 refine BB (.p 0 (.p 1 (.q 2 (.q 3 (.q 4 (.q 5 (.q 6 (.q 7 (.q 8 (.q 9 (.q 10 (.p 13 (.p 14 (.l 11 .e (.l 12 .b (.q 15 (.l 16 .b .nil))))))))))))))))) [] rfl (by kernel_rfl) Sel.nil ?_
 refine DB ?_;refine DB ?_;refine AL ?_;refine Acl ?_
 focus ((refine CJ rfl (CS (i:=1) (m:=14) (s:=1) rfl rfl rfl rfl (by decide) rfl) rfl rfl rfl rfl ?_))
 refine AX ?_;refine AL ?_;refine BP ?_
 focus ((refine CJ rfl (CM (out:=[int t,int 2,int 0,int sr,int 0,int (d.length:Int),.bool false,str [],v]) rfl rfl rfl rfl rfl) rfl rfl rfl rfl ?_))
 refine DF ?_;refine E6 ?_
 have hfl:Flat [.agg #[int t,int 2,int 0,int sr,int 0,int (d.length:Int),.bool false,str [],v]] [int t,int 2,int 0,int sr,int 0,int (d.length:Int),.bool false,str [],v]:=Flat.agg (ws:=[int t,int 2,int 0,int sr,int 0,int (d.length:Int),.bool false,str [],v]) Flat.nil
 refine BQ (a_e rfl (BW (cs:=[int t,int 2,int 0,int sr,int 0,int (d.length:Int),.bool false,str [],v]) rfl rfl rfl rfl rfl oneZ hfl rfl) rfl rfl rfl (by rintro _ _ ⟨b,rfl,rfl⟩ w hw; exact hw.tail) ?_)
 rintro _ _ ⟨bn,rfl,rfl⟩
 skip
 refine BQ (a_b rfl (CU (by_:=96) (s:=9) (news:=[int t,int 2,int 0,int sr,int 0,int (d.length:Int),.bool false,str [],v]) rfl rfl rfl rfl rfl rfl rfl hOo takeZ (cells_own memZ) rfl oneZ (by omega) (by simp only [maxLen]; omega) (by omega)) rfl rfl rfl (fun _ _ _ w hw=>hw.sel Sel.nil) ?_)
 rintro u1 _ ⟨σz,hO3,rfl⟩
 obtain ⟨pz,cz,rfl⟩:=hO3.form
 focus ((refine CJ rfl (CS (i:=1) (m:=14) (s:=1) rfl rfl rfl rfl (by decide) rfl) rfl rfl rfl rfl ?_))
 refine CT ?_; rintro _ _ ⟨rfl,rfl⟩;refine A8 ?_
 skip
 have hlz:(O ++ [((t,sr,C),v)]).length=O.length+1:=by rw [List.length_append]; rfl
 refine BV (H':=[sng bs (.cells #[y0,y1,y2,y3,int P.c.g,.slice p' F'.length c',int (s.rep.sent+1),int (if P.c.g∈(delM P s t).1 then s.rep.lost else s.rep.lost+1),.slice pp P.picks.length cp,int P.limit,.slice pq P.dark.length cq,int (s.ent+1),int (delM P s t).2,y13,.slice pz (O.length+1) cz,y15,y16,y17,y18,y19,y20,y21,y22,y23,y24,y25,y26,y27,y28,y29,y30,y31,y32,y33,y34,y35,y36,y37,y38,y39] 101 (0,0)),σ',σz]) (res0 rfl) rsubZ selZ ⟨rfl,F',p',c',σ',O ++ [((t,sr,C),v)],pz,cz,σz,e1,e2,hO',(by rw [List.map_append,hOe]; rfl),(fun y hy=>(List.mem_append.1 hy).elim .inl (fun hy=>.inr (by rw [List.mem_singleton] at hy; subst hy; exact ⟨rfl,rfl⟩))),?_,by rw [hlz]⟩
 rw [hlz,List.flatMap_append];exact hO3
end Go.Proofs.YtekcielcagdcmaaGreatDoor
