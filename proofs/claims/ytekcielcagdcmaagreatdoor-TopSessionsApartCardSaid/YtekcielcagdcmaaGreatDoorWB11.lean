/- Texts of this proof, one after the other; no conditions. -/
import Derived.Test.YtekcielcagdcmaaGreatDoorWB10
import Derived.Test.YtekcielcagdcmaaGreatDoorWB2
import Derived.Test.YtekcielcagdcmaaGreatDoorWB1
import Derived.Test.YtekcielcagdcmaaGreatDoorWB3
import Derived.Test.YtekcielcagdcmaaGreatDoorWB4
import Derived.Test.YtekcielcagdcmaaGreatDoorWB5
import Derived.Test.YtekcielcagdcmaaGreatDoorWB9
set_option linter.all false
/- Senders: checking; segments are collected with their times. -/
namespace Go.Proofs.YtekcielcagdcmaaGreatDoor
open Go.Eng Go.Step
set_option maxRecDepth 100000
set_option maxHeartbeats 64000000
theorem sndEq_spec (ρ τ:PH) (v w:Value) (l m:List (Int × Int)) (hv:SpAt ρ v l) (hw:SpAt τ w m) (hl:l.length≤9223372036854775807) :
  Ans Tryz.prog (fv 281) [v,w] [ρ,τ] (fun r=>r=.bool (decide (l=m))):=by
 obtain ⟨q,c,rfl,hr⟩:=hv.val encS_len
 obtain ⟨q',c',rfl,hr'⟩:=hw.val encS_len
 refine spec_in (cap:=[]) Tryz.func281 rfl rfl Tryz.ntmps281 rfl envZ (fun N β=>?_)
 by_cases hlen:l.length=m.length
 rotate_left
 ·refine AD ?_
  refine AA ?_;refine Aa8 ?_;refine BD ?_;refine AB ?_;refine BD ?_;refine C8 ?_;refine Acd ?_
  exact AK (res1 rfl rfl) rsubZ selZ ⟨rfl,by rw [decide_eq_false (fun h=>hlen (by rw [h]))]⟩
 refine Ab6 ?_;refine BD ?_;refine AB ?_;refine BD ?_;refine Add ?_;refine Aby ?_
 refine BU [0,1,12] (0:Nat) (fun k=>k≤l.length∧l.take k=m.take k) (fun k=>[(13,int k)]) (fun _=>[]) (fun k=>l.length-k) pickZ ⟨by omega,by simp⟩ covZ selZ ?_
 rintro k ⟨hk,hI⟩
 by_cases hlt:k<l.length
 ·have hx:=List.getElem?_eq_getElem hlt
  have hx':=List.getElem?_eq_getElem (show k<m.length by omega)
  obtain ⟨b1,o1,rfl,hRd1,_⟩:=spRow hr hx
  obtain ⟨b2,o2,rfl,hRd2,_⟩:=spRow hr' hx'
  refine Abn ?_;refine Abi ?_;refine AD ?_
  refine BB P5Z [] rfl (by kernel_rfl) Sel.nil ?_
  refine Abp ?_;refine CE ?_;refine BP ?_;refine Abp ?_;refine CE ?_;refine BP ?_
  focus ((refine' CJ rfl _ rfl rfl rfl rfl _; rotate_left; (apply q_neS [l[k].1,l[k].2] [m[k].1,m[k].2] (n:=2); exact rfl; exact rfl; kernel_rfl; kernel_rfl; kernel_rfl; exact rfl; exact rfl)))
  refine A8 ?_
  by_cases he:l[k]=m[k]
  ·rw [he]
   rw [show (!decide ([m[k].1,m[k].2]=[m[k].1,m[k].2]))=false by simp]
   skip
   refine Aaf ?_;refine Abf ?_
   refine BG (k+1) ⟨by omega,?_⟩ (by omega) covZ selZ
   rw [List.take_succ_eq_append_getElem hlt,List.take_succ_eq_append_getElem (show k<m.length by omega),hI,he]
  ·have hne:¬ ([l[k].1,l[k].2]=[m[k].1,m[k].2]):=fun h=>he (by
    simp only [List.cons.injEq,and_true] at h
    exact Prod.ext h.1 h.2)
   rw [show (!decide ([l[k].1,l[k].2]=[m[k].1,m[k].2]))=true by simp only [decide_eq_false hne,Bool.not_false]]
   skip
   refine AW rfl ?_;refine Aal ?_
   exact AK (res1 rfl rfl) rsubZ selZ ⟨rfl,by rw [decide_eq_false (fun h=>he (by subst h; rfl))]⟩
 ·rw [List.take_of_length_le (by omega),List.take_of_length_le (by omega)] at hI
  refine Ab5 ?_;refine Aal ?_
  exact AK (res1 rfl rfl) rsubZ selZ ⟨rfl,by rw [decide_eq_true hI]⟩
theorem sndWhole_spec (d:List UInt8):Eng.Spec Tryz.prog (fv 174) [str d] [] [] (fun r H'=>∃ b,r=.slice (some ⟨b,0,none⟩) 1 1∧H'=[sng b (.cells #[int 0,int (d.length:Int)] 77 (0,0))]):=by
 refine spec_in (cap:=[]) Tryz.func174 rfl rfl Tryz.ntmps174 rfl envZ (fun N β=>?_)
 refine Ac0 ?_
 focus ((refine' BT _ rfl rfl rfl _; rotate_left; (apply B0; exact rfl; exact rfl)))
 refine B6 ?_;refine BN ?_; rintro _ _ ⟨b,rfl,rfl⟩;refine Aaa ?_;exact AK (res1 rfl rfl) rsubZ selZ ⟨_,rfl,rfl⟩
theorem sndIn_spec {a l h:Int} (h1:l≤a) (h2:a≤h):Ans Tryz.prog (fv 89) [int a,int l,int h] [] (fun r=>r=.bool true):=by
 refine spec_in (cap:=[]) Tryz.func89 rfl rfl Tryz.ntmps89 rfl envZ (fun N β=>?_)
 refine Acu ?_;refine C9 ?_;refine Abq ?_;refine EE ?_;refine Abm ?_;exact A9 ⟨rfl,rfl⟩
theorem sndDue_spec {c:Ct} {se e busy sr due st:Int} {d:List UInt8} {K:Iv} {p:Option Addr} {k:Nat} (hb:0≤busy∧busy≤4398046511104) (hg:0≤c.g∧c.g≤1048576) :
  Ans Tryz.prog (fv 132) [.agg #[int c.f,int c.t,int c.s,int c.e,int c.r,int c.g,int c.l,int se,str d,int e,int busy,int sr,.slice p K.length k,int due,int st]] [] (fun r=>r=int (busy+2*c.g+1)):=by
 refine spec_in (cap:=[]) Tryz.func132 rfl rfl Tryz.ntmps132 rfl envZ (fun N β=>?_)
 refine Aa ?_;refine BJ (BL rfl) rfl rfl rfl ?_;rintro _ _ ⟨b1,rfl,rfl⟩;refine AS (ρ:=sng b1 _) takeZ ?_
 have cs:=rdB b1 97 [int c.f,int c.t,int c.s,int c.e,int c.r,int c.g,int c.l,int se,str d,int e,int busy,int sr,.slice p K.length k,int due,int st]
 have cs0:=rdC cs 0
 have cs1:=rdC cs 1
 have cs2:=rdC cs 2
 have cs3:=rdC cs 3
 have cs4:=rdC cs 4
 have cs5:=rdC cs 5
 have cs6:=rdC cs 6
 have cs7:=rdC cs 7
 have cs8:=rdC cs 8
 have cs9:=rdC cs 9
 have cs10:=rdC cs 10
 have cs11:=rdC cs 11
 have cs12:=rdC cs 12
 have cs13:=rdC cs 13
 have cs14:=rdC cs 14
 refine Abu ?_;refine AG ?_;refine Aad ?_;refine FI ?_;refine CD ?_;refine CD ?_;refine Aaa ?_;exact A9 ⟨rfl,rfl⟩
theorem sndComplete_spec {ρ:PH} {c:Ct} {se e busy sr due st:Int} {d:List UInt8} {K:Iv} {p:Option Addr} {k:Nat} (hv:SpAt ρ (.slice p K.length k) K) (hl:K.length≤1000000) :
  Ans Tryz.prog (fv 243) [.agg #[int c.f,int c.t,int c.s,int c.e,int c.r,int c.g,int c.l,int se,str d,int e,int busy,int sr,.slice p K.length k,int due,int st]] [ρ] (fun r=>r=.bool (decide (K=[((0:Int),(d.length:Int))]))):=by
 have hw:=sndWhole_spec d
 have hE:=fun bn=>sndEq_spec ρ (sng bn (.cells #[int 0,int (d.length:Int)] 77 (0,0))) _ (.slice (some ⟨bn,0,none⟩) 1 1) K [((0:Int),(d.length:Int))] hv (slE_sng (l:=[((0:Int),(d.length:Int))]) encS_len) (by omega)
 refine spec_in (cap:=[]) Tryz.func243 rfl rfl Tryz.ntmps243 rfl envZ (fun N β=>?_)
 refine Aa ?_;refine BJ (BL rfl) rfl rfl rfl ?_;rintro _ _ ⟨b1,rfl,rfl⟩;refine AS (ρ:=sng b1 _) takeZ ?_
 have cs:=rdB b1 97 [int c.f,int c.t,int c.s,int c.e,int c.r,int c.g,int c.l,int se,str d,int e,int busy,int sr,.slice p K.length k,int due,int st]
 have cs0:=rdC cs 0
 have cs1:=rdC cs 1
 have cs2:=rdC cs 2
 have cs3:=rdC cs 3
 have cs4:=rdC cs 4
 have cs5:=rdC cs 5
 have cs6:=rdC cs 6
 have cs7:=rdC cs 7
 have cs8:=rdC cs 8
 have cs9:=rdC cs 9
 have cs10:=rdC cs 10
 have cs11:=rdC cs 11
 have cs12:=rdC cs 12
 have cs13:=rdC cs 13
 have cs14:=rdC cs 14
 refine Ad ?_
 refine BB (.q 0 (.q 1 (.q 2 (.q 3 (.l 4 .e (.l 5 .e (.q 6 .nil))))))) [] rfl (by kernel_rfl) selZ ?_
 refine Adk ?_;refine BQ (DN rfl hw rfl rfl rdZ rfl rfl ?_);rintro _ _ ⟨bn,rfl,rfl⟩
 skip
 refine BQ (CI rfl (hE bn) rfl rfl rdZ rfl rfl ?_);rintro _ rfl;refine Aaq ?_
 skip
 exact A9 ⟨rfl,rfl⟩
theorem sndFields_spec {ρ:PH} {c:Ct} {se e busy sr due st:Int} {d:List UInt8} {K:Iv} {p:Option Addr} {k:Nat} (hv:SpAt ρ (.slice p K.length k) K) (hc:chkCt c=0) (hse:0≤se∧se≤1099511627776) (hn1:1≤d.length) (hn:d.length≤990) (hb:c.s≤busy∧busy≤e∧e≤c.e) (hsr:1≤sr∧sr≤1099511627776) (hK:InI d.length K):Ans Tryz.prog (fv 242) [.agg #[int c.f,int c.t,int c.s,int c.e,int c.r,int c.g,int c.l,int se,str d,int e,int busy,int sr,.slice p K.length k,int due,int st]] [ρ] (fun r=>r=int 0):=by
 have hKl:=hK.len (by omega)
 have hiv:=ivCheck_spec ρ _ K hv (by omega)
 rw [hK.chk (by omega) (by omega)] at hiv
 have hcc:=ctCheck_spec c
 rw [hc] at hcc
 have hcb:=chkCt_se hc
 obtain ⟨h1,h2⟩:=hse
 obtain ⟨h3,h4,h5⟩:=hb
 obtain ⟨h6,h7⟩:=hsr
 obtain ⟨q,cc,e0,hr⟩:=hv.val encS_len
 simp only [Value.slice.injEq] at e0
 obtain ⟨rfl,_,rfl⟩:=e0
 by_cases h0:K.length=0
 ·skip
  refine spec_in (cap:=[]) Tryz.func242 rfl rfl Tryz.ntmps242 rfl envZ (fun N β=>?_)
  refine Aa ?_;refine BJ (BL rfl) rfl rfl rfl ?_;rintro _ _ ⟨b1,rfl,rfl⟩;refine AS (ρ:=sng b1 _) takeZ ?_
  have cs:=rdB b1 97 [int c.f,int c.t,int c.s,int c.e,int c.r,int c.g,int c.l,int se,str d,int e,int busy,int sr,.slice p K.length k,int due,int st]
  have cs0:=rdC cs 0
  have cs1:=rdC cs 1
  have cs2:=rdC cs 2
  have cs3:=rdC cs 3
  have cs4:=rdC cs 4
  have cs5:=rdC cs 5
  have cs6:=rdC cs 6
  have cs7:=rdC cs 7
  have cs8:=rdC cs 8
  have cs9:=rdC cs 9
  have cs10:=rdC cs 10
  have cs11:=rdC cs 11
  have cs12:=rdC cs 12
  have cs13:=rdC cs 13
  have cs14:=rdC cs 14
  have csp:=rdQ (xs:=[_,_,_,_,_,_,_]) cs
  refine Adm ?_;refine A4 ?_; rintro _ _ ⟨b,rfl,rfl⟩;refine AY ?_; rintro _ _ ⟨rfl,rfl⟩;refine Aap ?_;refine Aau ?_
  revert b; intro b3
  refine AS (ρ:=sng b3 _) takeZ ?_
  have cw:=rdB b3 23 [int c.f,int c.t,int c.s,int c.e,int c.r,int c.g,int c.l]
  have c2:=rdC cw 2
  have c3:=rdC cw 3
  skip
  refine AT hcc rfl rfl rdZ rfl rfl ?_;rintro _ rfl;refine Aba ?_;refine Abg ?_
  focus ((refine AT (sndIn_spec (by omega) (by omega)) rfl rfl rdZ rfl rfl ?_; rintro _ rfl))
  refine BE ?_;refine Aak ?_
  focus ((refine' BT _ rfl rfl rfl _; rotate_left; (apply B0; exact rfl; exact rfl)))
  focus ((refine AT (sndIn_spec (by omega) (by omega)) rfl rfl rdZ rfl rfl ?_; rintro _ rfl))
  refine BE ?_;refine Adl ?_;refine Aad ?_
  focus ((refine AT (sndIn_spec (by omega) (by omega)) rfl rfl rdZ rfl rfl ?_; rintro _ rfl))
  refine BE ?_;refine Adl ?_;refine Ab1 ?_
  focus ((refine AT (sndIn_spec (by omega) (by omega)) rfl rfl rdZ rfl rfl ?_; rintro _ rfl))
  refine BE ?_;refine Aa4 ?_;refine Acv ?_
  refine BB (.q 0 (.q 1 (.l 2 .e (.q 3 (.q 4 (.q 5 (.q 6 (.q 7 (.q 8 (.q 9 (.q 10 (.q 11 (.q 12 (.q 13 (.q 14 (.q 15 (.q 16 (.q 17 (.q 18 (.q 19 (.q 20 (.q 21 (.q 22 (.q 23 (.q 24 (.q 25 (.q 26 (.q 27 (.q 28 (.q 29 (.q 30 (.q 31 (.q 32 .nil))))))))))))))))))))))))))))))))) [] rfl (by kernel_rfl) selZ ?_
  refine Aan ?_;refine BQ (CI rfl hiv rfl rfl rdZ rfl rfl ?_);rintro _ rfl;refine F4 ?_;refine Ab2 ?_;refine C1 ?_;refine D0 ?_;refine Acx ?_;refine Ace ?_;refine Abd ?_;refine Acj ?_;refine CB ?_;refine Ab0 ?_;refine Aal ?_;exact A9 ⟨rfl,rfl⟩
 have hx:=List.getElem?_eq_getElem (show 0<K.length by omega)
 have hy:=List.getElem?_eq_getElem (show K.length-1<K.length by omega)
 have hxa:=hK.at _ (List.getElem_mem (show 0<K.length by omega))
 have hya:=hK.at _ (List.getElem_mem (show K.length-1<K.length by omega))
 obtain ⟨b4,o4,rfl,hrd,x0,x1⟩:=spRow hr hx
 obtain ⟨b5,o5,e5,hrd2,y0,y1⟩:=spRow hr hy
 simp only [Option.some.injEq,Addr.mk.injEq,and_true] at e5
 obtain ⟨rfl,rfl⟩:=e5
 generalize K[0]=xf at hrd x0 x1 hxa
 generalize K[K.length-1]=xl at hrd2 y0 y1 hya
 refine spec_in (cap:=[]) Tryz.func242 rfl rfl Tryz.ntmps242 rfl envZ (fun N β=>?_)
 refine Aa ?_;refine BJ (BL rfl) rfl rfl rfl ?_;rintro _ _ ⟨b1,rfl,rfl⟩;refine AS (ρ:=sng b1 _) takeZ ?_
 have cs:=rdB b1 97 [int c.f,int c.t,int c.s,int c.e,int c.r,int c.g,int c.l,int se,str d,int e,int busy,int sr,.slice (some ⟨b4,o4,none⟩) K.length k,int due,int st]
 have cs0:=rdC cs 0
 have cs1:=rdC cs 1
 have cs2:=rdC cs 2
 have cs3:=rdC cs 3
 have cs4:=rdC cs 4
 have cs5:=rdC cs 5
 have cs6:=rdC cs 6
 have cs7:=rdC cs 7
 have cs8:=rdC cs 8
 have cs9:=rdC cs 9
 have cs10:=rdC cs 10
 have cs11:=rdC cs 11
 have cs12:=rdC cs 12
 have cs13:=rdC cs 13
 have cs14:=rdC cs 14
 have csp:=rdQ (xs:=[_,_,_,_,_,_,_]) cs
 refine Adm ?_;refine A4 ?_; rintro _ _ ⟨b,rfl,rfl⟩;refine AY ?_; rintro _ _ ⟨rfl,rfl⟩;refine Aap ?_;refine Aau ?_
 revert b; intro b3
 refine AS (ρ:=sng b3 _) takeZ ?_
 have cw:=rdB b3 23 [int c.f,int c.t,int c.s,int c.e,int c.r,int c.g,int c.l]
 have c2:=rdC cw 2
 have c3:=rdC cw 3
 skip
 refine AT hcc rfl rfl rdZ rfl rfl ?_;rintro _ rfl;refine Aba ?_;refine Abg ?_
 focus ((refine AT (sndIn_spec (by omega) (by omega)) rfl rfl rdZ rfl rfl ?_; rintro _ rfl))
 refine BE ?_;refine Aak ?_
 focus ((refine' BT _ rfl rfl rfl _; rotate_left; (apply B0; exact rfl; exact rfl)))
 focus ((refine AT (sndIn_spec (by omega) (by omega)) rfl rfl rdZ rfl rfl ?_; rintro _ rfl))
 refine BE ?_;refine Adl ?_;refine Aad ?_
 focus ((refine AT (sndIn_spec (by omega) (by omega)) rfl rfl rdZ rfl rfl ?_; rintro _ rfl))
 refine BE ?_;refine Adl ?_;refine Ab1 ?_
 focus ((refine AT (sndIn_spec (by omega) (by omega)) rfl rfl rdZ rfl rfl ?_; rintro _ rfl))
 refine BE ?_;refine Aa4 ?_;refine Acv ?_
 refine BB (.q 0 (.q 1 (.l 2 .e (.q 3 (.q 4 (.q 5 (.q 6 (.q 7 (.q 8 (.q 9 (.q 10 (.q 11 (.q 12 (.q 13 (.q 14 (.q 15 (.q 16 (.q 17 (.q 18 (.q 19 (.q 20 (.q 21 (.q 22 (.q 23 (.q 24 (.q 25 (.q 26 (.q 27 (.q 28 (.q 29 (.q 30 (.q 31 (.q 32 .nil))))))))))))))))))))))))))))))))) [] rfl (by kernel_rfl) selZ ?_
 refine Aan ?_;refine BQ (CI rfl hiv rfl rfl rdZ rfl rfl ?_);rintro _ rfl;refine F4 ?_;refine Ab2 ?_;refine C1 ?_;refine EW ?_;refine Ab2 ?_;refine D8 ?_;refine Ac1 ?_;refine DR ?_;refine Ab2 ?_;refine Aan ?_;refine C1 ?_;refine Adf ?_;refine Acw ?_;refine Aan ?_
 focus ((refine' CJ rfl _ rfl rfl rfl rfl _; rotate_left; (apply B0; exact rfl; exact rfl)))
 refine D0 ?_;refine CB ?_;refine BY ?_;refine CB ?_;refine Ab0 ?_;refine Aal ?_;exact A9 ⟨rfl,rfl⟩
theorem sndChk_spec {ρ:PH} {c:Ct} {se e busy sr due st:Int} {d:List UInt8} {K:Iv} {p:Option Addr} {k:Nat} (hv:SpAt ρ (.slice p K.length k) K) (hc:chkCt c=0) (hse:0≤se∧se≤1099511627776) (hn1:1≤d.length) (hn:d.length≤990) (hb:c.s≤busy∧busy≤e∧e≤c.e) (hsr:1≤sr∧sr≤1099511627776) (hK:InI d.length K) (hst:(st=1∧K≠[((0:Int),(d.length:Int))]∧due=busy+2*c.g+1)∨(st=2∧K=[((0:Int),(d.length:Int))]∧due=0)∨(st=3∧due=0)) :
  Ans Tryz.prog (fv 214) [.agg #[int c.f,int c.t,int c.s,int c.e,int c.r,int c.g,int c.l,int se,str d,int e,int busy,int sr,.slice p K.length k,int due,int st]] [ρ] (fun r=>r=int 0):=by
 have hKl:=hK.len (by omega)
 have hcf:=sndFields_spec (due:=due) (st:=st) hv hc hse hn1 hn hb hsr hK
 have hco:=sndComplete_spec (c:=c) (se:=se) (e:=e) (busy:=busy) (sr:=sr) (due:=due) (st:=st) (d:=d) hv (by omega)
 have hcb:=chkCt_se hc
 have hcg:=chkCt_gg hc
 have hdu:=sndDue_spec (c:=c) (se:=se) (e:=e) (busy:=busy) (sr:=sr) (due:=due) (st:=st) (d:=d) (K:=K) (p:=p) (k:=k) (by omega) hcg
 refine spec_in (cap:=[]) Tryz.func214 rfl rfl Tryz.ntmps214 rfl envZ (fun N β=>?_)
 refine Aa ?_;refine BJ (BL rfl) rfl rfl rfl ?_;rintro _ _ ⟨b1,rfl,rfl⟩;refine AS (ρ:=sng b1 _) takeZ ?_
 have cs:=rdB b1 97 [int c.f,int c.t,int c.s,int c.e,int c.r,int c.g,int c.l,int se,str d,int e,int busy,int sr,.slice p K.length k,int due,int st]
 have cs0:=rdC cs 0
 have cs1:=rdC cs 1
 have cs2:=rdC cs 2
 have cs3:=rdC cs 3
 have cs4:=rdC cs 4
 have cs5:=rdC cs 5
 have cs6:=rdC cs 6
 have cs7:=rdC cs 7
 have cs8:=rdC cs 8
 have cs9:=rdC cs 9
 have cs10:=rdC cs 10
 have cs11:=rdC cs 11
 have cs12:=rdC cs 12
 have cs13:=rdC cs 13
 have cs14:=rdC cs 14
 refine Ads ?_;refine AT hcf rfl rfl rdZ rfl rfl ?_;rintro _ rfl
 rcases hst with ⟨rfl,hw,rfl⟩|⟨rfl,hw,rfl⟩|⟨rfl,rfl⟩
 ·rw [decide_eq_false hw] at hco
  refine Abv ?_;refine Aba ?_;refine Aal ?_;refine Abg ?_;refine AE ?_;refine A5 ?_;refine Aa ?_;refine CN ?_;refine Aaa ?_;refine AW rfl ?_
  refine BB (.q 0 (.l 1 .e (.q 2 (.q 3 (.q 4 (.q 5 (.q 6 (.l 7 .e (.q 8 (.q 9 (.q 10 .nil))))))))))) [] rfl (by kernel_rfl) selZ ?_
  refine BP ?_;refine BQ (CI rfl hco rfl rfl rdZ rfl rfl ?_);rintro _ rfl;refine DC ?_;refine Ab2 ?_;refine BP ?_;refine BQ (CI rfl hdu rfl rfl rdZ rfl rfl ?_);rintro _ rfl;refine ED ?_;refine BY ?_;refine Aaq ?_;refine BH ?_;refine Aah ?_;refine Abr ?_;refine Aal ?_;exact A9 ⟨rfl,rfl⟩
 ·rw [decide_eq_true hw] at hco
  refine Abv ?_;refine Aba ?_;refine Aal ?_;refine Abg ?_;refine AE ?_;refine A5 ?_;refine Aa ?_;refine B9 ?_;refine Ab9 ?_;refine Aa ?_;refine CN ?_;refine Aaa ?_;refine AW rfl ?_;refine AA ?_;refine AQ ?_;refine AT hco rfl rfl rdZ rfl rfl ?_;rintro _ rfl;refine Aak ?_;refine CN ?_;refine Abm ?_;refine BH ?_;refine Aah ?_;refine Abr ?_;refine Aal ?_;exact A9 ⟨rfl,rfl⟩
 ·refine AC ?_
  refine Abt ?_;refine Aba ?_;refine Aal ?_;refine Abg ?_;refine AE ?_;refine A5 ?_;refine Aa ?_;refine B9 ?_;refine Ab9 ?_;refine Aa ?_;refine B9 ?_;refine Ab9 ?_;refine Aa ?_;refine CN ?_;refine Aaa ?_;refine AW rfl ?_;refine AA ?_;refine Aad ?_;refine CN ?_;refine Aaa ?_;refine BH ?_;refine Aah ?_;refine Abr ?_;refine Aal ?_;exact A9 ⟨rfl,rfl⟩
theorem sndFail_spec {c:Ct} {se e busy sr due st:Int} {d:List UInt8} {K:Iv} {p:Option Addr} {k:Nat} :
  Ans Tryz.prog (fv 131) [.agg #[int c.f,int c.t,int c.s,int c.e,int c.r,int c.g,int c.l,int se,str d,int e,int busy,int sr,.slice p K.length k,int due,int st]] [] (fun r=>r=.agg #[int c.f,int c.t,int c.s,int c.e,int c.r,int c.g,int c.l,int se,str d,int e,int busy,int sr,.slice p K.length k,int 0,int 3]):=by
 refine spec_in (cap:=[]) Tryz.func131 rfl rfl Tryz.ntmps131 rfl envZ (fun N β=>?_)
 refine Aa ?_;refine BJ (BL rfl) rfl rfl rfl ?_;rintro _ _ ⟨b1,rfl,rfl⟩;refine A4 ?_; rintro _ _ ⟨b,rfl,rfl⟩;refine Acm ?_;refine AG ?_;refine BC ?_; rintro _ _ ⟨rfl,rfl⟩;refine AG ?_;refine BC ?_; rintro _ _ ⟨rfl,rfl⟩;refine AE ?_;refine Aau ?_;refine AY ?_; rintro _ _ ⟨rfl,rfl⟩;refine AE ?_;exact AK (resS1 (v1:=[int c.f,int c.t,int c.s,int c.e,int c.r,int c.g,int c.l,int se,str d,int e,int busy,int sr,.slice p K.length k,int 0,int 3]) rfl rfl rfl rfl (cells_own memZ)) rsubZ selZ ⟨rfl,rfl⟩
theorem sndTrans_spec (rate t:Int) (v:Value) (hv:v.oneCell'=true) :
  Eng.Spec Tryz.prog (fv 130) [int rate,int t,v] [] [] (fun r H'=>∃ b1 b2 b3,r=.func (.func 168) #[] #[.pointer (some ⟨b1,0,none⟩),.pointer (some ⟨b2,0,none⟩),.pointer (some ⟨b3,0,none⟩)]∧H'=[sng b1 (.cells #[v] 185 (0,0)),sng b3 (.cells #[int t] 3 (0,0)),sng b2 (.cells #[int rate] 3 (0,0))]):=by
 refine spec_in (cap:=[]) Tryz.func130 rfl rfl Tryz.ntmps130 rfl envZ (fun N β=>?_)
 refine Aa ?_;refine BJ (DZ rfl rfl) rfl rfl rfl ?_;rintro _ _ ⟨b2,rfl,rfl⟩;refine BJ (DZ rfl rfl) rfl rfl rfl ?_;rintro _ _ ⟨b3,rfl,rfl⟩;refine BJ (DZ rfl hv) rfl rfl rfl ?_;rintro _ _ ⟨b1,rfl,rfl⟩;refine Ach ?_;refine BZ ?_;refine Aaa ?_;exact AK (res1 rfl rfl) rsubZ selZ ⟨b1,b2,b3,rfl,rfl⟩
end Go.Proofs.YtekcielcagdcmaaGreatDoor
namespace Go.Eng
variable {L:Env} {R H:List PH}
theorem resSSE {fn:Func} {N:Bs} {M:Nat} {P:Program} {t u s b1 b2:Nat} {T U:TypeId} {v1 v2:List Value} {v3:Value} (hr:fn.results = #[.cell t T,.cell u U,.tmp s]) (ht:look L t=some (.pointer (some ⟨b1,0,none⟩))) (hu:look L u=some (.pointer (some ⟨b2,0,none⟩))) (hs:look L s=some v3)
    (a1:aggP P T=some true) (n1:szP P T=some v1.length) (a2:aggP P U=some true) (n2:szP P U=some v2.length) (c1:Cells N R H b1 0 v1) (c2:Cells N R H b2 0 v2) :
    ∀ a w,Frm M L a→Sat N R H w→(results fn a.tmps).run P w=.ok (.tuple #[.agg v1.toArray,.agg v2.toArray,v3]) w:=by
  intro a w hf hs'
  have e1:a.tmps[t]?.getD undef=.pointer (some ⟨b1,0,none⟩):=by simpa using hf.get t _ ht
  have e2:a.tmps[u]?.getD undef=.pointer (some ⟨b2,0,none⟩):=by simpa using hf.get u _ hu
  have e3:a.tmps[s]?.getD undef=v3:=by simpa using hf.get s _ hs
  have l1:=run_loadCells_list (P:=P) (w:=w) ⟨b1,0,none⟩ v1 (fun j v hv=>by rw [Addr.add_lit]; exact c1 w hs' j v hv)
  have l2:=run_loadCells_list (P:=P) (w:=w) ⟨b2,0,none⟩ v2 (fun j v hv=>by rw [Addr.add_lit]; exact c2 w hs' j v hv)
  simp [results,hr,e1,e2,e3,loadVar,run_isAgg a1,run_isAgg a2,run_sizeOf n1,run_sizeOf n2,l1,l2,asAddr]
end Go.Eng
namespace Go.Proofs.YtekcielcagdcmaaGreatDoor
open Go.Eng Go.Step
set_option maxRecDepth 100000
set_option maxHeartbeats 64000000
theorem sndTrans_iter {ρ:PH} {v:Value} {se rate t0:Int} {d:List UInt8} {G:List Sg} (hv:SlE (encG se d) 8 ρ v G) (hG:∀ x∈G,okG d.length x) (hn:d.length≤990) (hse:0≤se∧se≤1099511627776) (hr:1≤rate∧rate≤1000) (ht:0≤t0∧t0≤4398046511104) (hl:G.length≤1000000) (b1 b2 b3:Nat) :
  IterW Tryz.prog (.func (.func 168) #[] #[.pointer (some ⟨b1,0,none⟩),.pointer (some ⟨b2,0,none⟩),.pointer (some ⟨b3,0,none⟩)]) [sng b1 (.cells #[v] 185 (0,0)),sng b2 (.cells #[int rate] 3 (0,0)),ρ] [sng b3 (.cells #[int t0] 3 (0,0))] ((timed rate t0 G).map (fun x=>[.agg (encO se d x).toArray])):=by
 intro y S Own Inv Stop Ry hy hyl σ0 hI0
 obtain ⟨yl,rfl⟩:=hyl
 obtain ⟨q,c,rfl,hrd⟩:=hv.val (encG_len se d)
 have bx16_3:=rdB b1 185 [.slice q G.length c]
 have c1:=rdC bx16_3 0
 have bx17_3:=rdB b2 3 [int rate]
 have c2:=rdC bx17_3 0
 have htl:=timed_len rate G t0
 simp only [List.cons_append,List.nil_append]
 refine spec_in (cap:=[.pointer (some ⟨b1,0,none⟩),.pointer (some ⟨b2,0,none⟩),.pointer (some ⟨b3,0,none⟩)]) Tryz.func168 rfl rfl Tryz.ntmps168 rfl envZ (fun N β=>?_)
 refine EN (H':=sng b3 (.cells #[int t0] 3 (0,0))::Own σ0) (List.perm_append_comm (l₂:=[_])) ?_;refine Ac ?_;refine Aby ?_
 refine BU [0,1,2,3,9,10] (X:=Nat × S) (0,σ0) (fun z=>z.1≤G.length∧Inv z.1 z.2) (fun z=>[(11,int (z.1:Int))]) (fun z=>sng b3 (.cells #[int (endG rate t0 (G.take z.1))] 3 (0,0))::Own z.2) (fun z=>G.length-z.1) pickZ ⟨Nat.zero_le _,hI0⟩ covZ Sel.refl ?_
 rintro ⟨k,σ1⟩ ⟨hk,hI⟩
 dsimp only at hk hI ⊢
 by_cases hlt:k<G.length
 rotate_left
 ·have hke:k=G.length:=by omega
  subst hke;refine Ab5 ?_
  refine BV (res0 rfl) (fun _ h=>h) (Sel.skip Sel.refl) ⟨σ1,rfl,.inl ?_⟩
  rw [List.length_map,htl];exact hI
 have hx:=List.getElem?_eq_getElem hlt
 have hgx:=hG _ (List.getElem_mem hlt)
 obtain ⟨bl,ol,rfl,hR⟩:=hrd k _ hx
 generalize G[k]=x at hx hgx hR
 have hR:RdN ρ bl (ol+k*8) [int 1,int se,int x.sr,int (x.a:Int),int (d.length:Int),.bool (decide (1≤x.sr)),str (cutD d x.a x.b),.slice none 0 0]:=hR
 have hes:=endG_succ rate (t:=t0) hx
 have hb1:=endG_le hr.1 (G:=G.take k) (t:=t0) (fun y hy=>hG y (List.mem_of_mem_take hy))
 have hb1l:(G.take k).length=k:=by rw [List.length_take]; omega
 have htm:=segTime_spec (se:=se) hgx (by omega) hse hr
 have hq:=segT_le hr.1 (len:=((x.b-x.a:Nat):Int)) (by have:=hgx.1; omega)
 have hq0:=segT_pos hr.1 (len:=((x.b-x.a:Nat):Int)) (by have:=hgx.1; omega)
 have hql:=hgx.2.2.1
 have hya:=hy k σ1 [.agg (encO se d (endG rate t0 (G.take (k+1)),x)).toArray] (by rw [List.getElem?_map,timed_get rate G t0 k x hx]; rfl) hI
 rw [hes] at hya
 generalize endG rate t0 (G.take k)=t1 at hb1 hes hya
 generalize segT rate ((x.b-x.a:Nat):Int)=dt at htm hq hq0 hes hya
 generalize hck:decide (1≤x.sr)=ck at hR htm
 have ev:encO se d (t1+dt,x)=[int (t1+dt),int 1,int se,int x.sr,int (x.a:Int),int (d.length:Int),.bool ck,str (cutD d x.a x.b),.slice none 0 0]:=by rw [← hck]; rfl
 rw [ev] at hya;refine Ade ?_;refine A4 ?_; rintro _ _ ⟨b,rfl,rfl⟩;refine AY ?_; rintro _ _ ⟨rfl,rfl⟩;refine AE ?_;refine Ac ?_;refine AQ ?_
 revert b; intro b6
 refine AS (ρ:=sng b6 _) takeZ ?_
 have cw:=rdB b6 54 [int 1,int se,int x.sr,int (x.a:Int),int (d.length:Int),.bool ck,str (cutD d x.a x.b),.slice none 0 0]
 skip
 refine AT htm rfl rfl rdZ rfl rfl ?_;rintro _ rfl;refine Aa7 ?_;refine Ac ?_;refine AB ?_;refine CD ?_;refine BC ?_; rintro _ _ ⟨rfl,rfl⟩;refine Abt ?_;refine AF ?_;refine AQ ?_;refine BT (CM (out:=[int (t1+dt),int 1,int se,int x.sr,int (x.a:Int),int (d.length:Int),.bool ck,str (cutD d x.a x.b),.slice none 0 0]) rfl rfl rfl rfl rfl) rfl rfl rfl ?_
 refine BI hya rfl rfl (Takes.skip Takes.all) (fun τ hτ=>.inl (by simp [hτ])) rfl rfl ?_
 rintro _ H' ⟨σ3,rfl,⟨rfl,hI3⟩|⟨rfl,hSt⟩⟩
 ·refine EN (H':=_::Own σ3) (List.perm_append_comm (l₂:=[_])) ?_
  refine Abr ?_;refine Abf ?_;refine CR ?_
  refine BG (k+1,σ3) ⟨by dsimp only; omega,hI3⟩ (by dsimp only; omega) covZ ?_
  dsimp only
  rw [hes];exact Sel.cons .here Sel.refl
 ·refine EN (H':=_::Own σ3) (List.perm_append_comm (l₂:=[_])) ?_
  refine BE ?_;refine Aai ?_
  exact AK (res0 rfl) (fun _ h=>List.mem_cons_of_mem _ h) (Sel.skip Sel.refl) ⟨σ3,rfl,.inr hSt⟩
theorem sndAppend_spec {R1 HI:List PH} {se:Int} {d:List UInt8} {X:List (Int × Sg)} {cap:List Value} (hit:IterW Tryz.prog (.func (.func 168) #[] cap.toArray) R1 HI (X.map (fun x=>[.agg (encO se d x).toArray]))) (hl:X.length≤1000000) :
  Eng.Spec Tryz.prog (fv 167) [.slice none 0 0,.func (.func 168) #[] cap.toArray] R1 HI (fun r H'=>∃ p c σ,r=.slice p X.length c∧OwnS 56 9 (.slice p X.length c) X.length (X.flatMap (encO se d)) σ∧H'=[σ]):=by
 refine spec_in (cap:=[]) Tryz.func167 rfl rfl Tryz.ntmps167 rfl envZ (fun N β=>?_)
 refine CG ?_;refine Aa ?_;refine EB ?_; rintro _ _ ⟨b,rfl,rfl⟩;refine Aa8 ?_;refine AE ?_;refine A5 ?_
 revert b; intro b2
 refine F9 (gf:=168) (cap:=cap) (ps:=[7]) (X:=Value × PH) rfl Tryz.func168 rfl rfl
  hit ?_
  (fun i x=>OwnS 56 9 x.1 i ((X.take i).flatMap (encO se d)) x.2)
  (fun x=>[sng b2 (.cells #[x.1] 50 (0,0)),x.2]) (fun _ _=>False) (.slice none 0 0,emp) rfl (Takes.cons .here (Takes.cons .here Takes.all)) (OwnS.nil _ _) ?_ ?_ ?_
 ·intro σ' hσ
  exact List.mem_cons_of_mem _ hσ
 ·rintro lo r i ⟨u,σ⟩ vs hvs hO hps has hbd hst hpe hfr
  obtain ⟨st,pe,fnn,tm,prm,asg,bdy,df⟩:=r
  simp only at hps has hbd hst hpe hfr;subst hps has hbd hst hpe;rw [List.getElem?_map] at hvs
  obtain ⟨⟨t1,x⟩,hc,rfl⟩:=Option.map_eq_some_iff.1 hvs
  have hi:=(List.getElem?_eq_some_iff.1 hc).1
  dsimp only at hO
  have hnx:(X.take (i+1)).flatMap (encO se d)=(X.take i).flatMap (encO se d) ++ encO se d (t1,x):=by
   rw [List.take_add_one,hc,List.flatMap_append]; simp
  have ev:encO se d (t1,x)=[int t1,int 1,int se,int x.sr,int (x.a:Int),int (d.length:Int),.bool (decide (1≤x.sr)),str (cutD d x.a x.b),.slice none 0 0]:=rfl
  rw [ev] at hnx ⊢
  have hu1:u.oneCell'=true:=by obtain ⟨_,_,rfl⟩:=hO.form; rfl
  generalize decide (1≤x.sr)=ck at hnx ⊢
  refine yield_spec hfr rfl (by intro p hp; simp at hp; omega) putiZ (fun N' β'=>?_)
  dsimp only
  refine AA ?_;refine A4 ?_; rintro _ _ ⟨b,rfl,rfl⟩;refine AY ?_; rintro _ _ ⟨rfl,rfl⟩;refine AE ?_;refine DO rfl rfl ?_;refine D4 takeZ rfl ?_
  revert b; intro b5
  refine AS (ρ:=sng b5 _) takeZ ?_
  have cw:=rdB b5 56 [int t1,int 1,int se,int x.sr,int (x.a:Int),int (d.length:Int),.bool ck,str (cutD d x.a x.b),.slice none 0 0]
  refine A5 ?_;refine AA ?_;refine AF ?_;refine AQ ?_
  have hfl:Flat [.agg #[int t1,int 1,int se,int x.sr,int (x.a:Int),int (d.length:Int),.bool ck,str (cutD d x.a x.b),.slice none 0 0]] [int t1,int 1,int se,int x.sr,int (x.a:Int),int (d.length:Int),.bool ck,str (cutD d x.a x.b),.slice none 0 0]:=Flat.agg (ws:=[int t1,int 1,int se,int x.sr,int (x.a:Int),int (d.length:Int),.bool ck,str (cutD d x.a x.b),.slice none 0 0]) Flat.nil
  refine BJ (BW (cs:=[int t1,int 1,int se,int x.sr,int (x.a:Int),int (d.length:Int),.bool ck,str (cutD d x.a x.b),.slice none 0 0]) rfl rfl rfl rfl rfl oneZ hfl rfl) rfl rfl rfl ?_;rintro _ _ ⟨bn,rfl,rfl⟩
  refine BJ (CU (by_:=96) (s:=9) (news:=[int t1,int 1,int se,int x.sr,int (x.a:Int),int (d.length:Int),.bool ck,str (cutD d x.a x.b),.slice none 0 0]) rfl rfl rfl rfl rfl rfl rfl hO takeZ (cells_own memZ) rfl oneZ (by omega) (by simp only [maxLen]; omega) (by omega)) rfl rfl rfl ?_
  rintro u1 _ ⟨σ1,hO1,rfl⟩
  have hu2:u1.oneCell'=true:=by obtain ⟨_,_,rfl⟩:=hO1.form; rfl
  refine BC ?_; rintro _ _ ⟨rfl,rfl⟩;refine AE ?_;refine BH ?_;refine CV takeZ rsubZ selZ ⟨(u1,σ1),.inl ⟨rfl,?_,rfl⟩⟩
  dsimp only
  rw [hnx];exact hO1
 ·rintro b2' ⟨u,σ⟩ hO
  have hxl:(X.map (fun x=>[Value.agg (encO se d x).toArray])).length=X.length:=List.length_map _
  rw [hxl] at hO
  dsimp only at hO
  rw [List.take_length] at hO
  obtain ⟨pu,cu,rfl⟩:=hO.form
  refine BH ?_;refine Ac ?_;refine Aaa ?_;exact EM (Marks.cons .here .nil) (res1 rfl rfl) rsubZ selZ ⟨pu,cu,σ,rfl,hO,rfl⟩
 ·rintro _ _ _ h; exact h.elim
theorem sndCollect_spec {R1 HI:List PH} {se:Int} {d:List UInt8} {X:List (Int × Sg)} {cap:List Value} (hit:IterW Tryz.prog (.func (.func 168) #[] cap.toArray) R1 HI (X.map (fun x=>[.agg (encO se d x).toArray]))) (hl:X.length≤1000000) :
  Eng.Spec Tryz.prog (fv 129) [.func (.func 168) #[] cap.toArray] R1 HI (fun r H'=>∃ p c σ,r=.slice p X.length c∧OwnS 56 9 (.slice p X.length c) X.length (X.flatMap (encO se d)) σ∧H'=[σ]):=by
 have hA:=sndAppend_spec hit hl
 refine spec_in (cap:=[]) Tryz.func129 rfl rfl Tryz.ntmps129 rfl envZ (fun N β=>?_)
 refine Ac0 ?_
 refine BI hA rfl rfl Takes.all (fun τ hτ=>.inl (List.mem_cons_of_mem _ hτ)) rfl rfl ?_
 rintro _ _ ⟨pu,cu,σ,rfl,hO,rfl⟩;refine Aaa ?_;exact AK (res1 rfl rfl) rsubZ selZ ⟨pu,cu,σ,rfl,hO,rfl⟩
theorem sndSend_spec {ρ:PH} {v:Value} {c:Ct} {se e busy sr due st t0:Int} {d:List UInt8} {K:Iv} {p:Option Addr} {k:Nat} {G:List Sg} {x:Sg} (hv:SlE (encG se d) 8 ρ v G) (hG:∀ x∈G,okG d.length x) (hn:d.length≤990) (hse:0≤se∧se≤1099511627776) (hc:chkCt c=0) (he:e≤c.e) (ht:0≤t0∧t0≤4398046511104) (hl:G.length≤1000000) (hx:G[G.length-1]?=some x) :
  Eng.Spec Tryz.prog (fv 90) [.agg #[int c.f,int c.t,int c.s,int c.e,int c.r,int c.g,int c.l,int se,str d,int e,int busy,int sr,.slice p K.length k,int due,int st],int t0,v] [ρ] [] (fun r H'=>(e<endG c.r t0 G∧r=.tuple #[.agg #[int c.f,int c.t,int c.s,int c.e,int c.r,int c.g,int c.l,int se,str d,int e,int busy,int sr,.slice p K.length k,int 0,int 3],.slice none 0 0]∧H'=[])∨(endG c.r t0 G≤e∧∃ p' c' σ,r=.tuple #[.agg #[int c.f,int c.t,int c.s,int c.e,int c.r,int c.g,int c.l,int se,str d,int e,int (endG c.r t0 G),int x.sr,.slice p K.length k,int (endG c.r t0 G+2*c.g+1),int 1],.slice p' G.length c']∧OwnS 56 9 (.slice p' (timed c.r t0 G).length c') (timed c.r t0 G).length ((timed c.r t0 G).flatMap (encO se d)) σ∧H'=[σ])):=by
 obtain ⟨hr,hg,hce⟩:=chkCt_rg hc
 have hcs:=chkCt_se hc
 have htr:=sndTrans_spec c.r t0 v (by obtain ⟨_,_,rfl,_⟩:=hv.val (encG_len se d); rfl)
 have hit:=fun b1 b2 b3=>sndTrans_iter (t0:=t0) hv hG hn hse hr ht hl b1 b2 b3
 have htl:=timed_len c.r G t0
 have hco:=fun b1 b2 b3=>sndCollect_spec (hit b1 b2 b3) (by rw [htl]; exact hl)
 have hfa:=@sndFail_spec c se e busy sr due st d K p k
 have hEb:=endG_le hr.1 (t:=t0) hG
 have hi:=(List.getElem?_eq_some_iff.1 hx).1
 have hlx:=timed_get c.r G t0 _ x hx
 rw [show G.length-1+1=G.length from by omega,List.take_length] at hlx
 have hxo:=hG x (List.mem_of_getElem? hx)
 obtain ⟨h1,h2,h3,h4,h5⟩:=hxo
 have hdu:=fun hE=>sndDue_spec (c:=c) (se:=se) (e:=e) (busy:=endG c.r t0 G) (sr:=x.sr) (due:=due) (st:=1) (d:=d) (K:=K) (p:=p) (k:=k) hE (by omega)
 generalize hEE:endG c.r t0 G=E at hEb hlx hdu ⊢
 generalize timed c.r t0 G=X at hco htl hlx ⊢
 refine spec_in (cap:=[]) Tryz.func90 rfl rfl Tryz.ntmps90 rfl envZ (fun N β=>?_)
 refine Aa ?_;refine BJ (BL rfl) rfl rfl rfl ?_;rintro _ _ ⟨bs,rfl,rfl⟩;refine A4 ?_; rintro _ _ ⟨b,rfl,rfl⟩;refine Ach ?_;refine AG ?_;refine Aad ?_;refine Aao ?_
 revert b; intro b6
 refine BI htr rfl rfl Takes.nil (fun τ hτ=>by simp at hτ) rfl rfl ?_
 rintro _ _ ⟨b1,b2,b3,rfl,rfl⟩;refine AS (ρ:=sng b1 _) takeZ ?_;refine AS (ρ:=sng b2 _) takeZ ?_;refine BI (hco b1 b2 b3) rfl rfl takesZ rdZ rfl rfl ?_;rintro _ _ ⟨pu,cu,σ,rfl,hO,rfl⟩
 obtain ⟨_,_,e0,hrO⟩:=SlE.val (encO_len se d) hO.at
 simp only [Value.slice.injEq] at e0
 obtain ⟨rfl,_,rfl⟩:=e0
 rw [htl]
 obtain ⟨b8,o8,rfl,hR⟩:=hrO _ _ hlx
 have hR:RdN σ b8 (o8+(G.length-1)*9) [int E,int 1,int se,int x.sr,int (x.a:Int),int (d.length:Int),.bool (decide (1≤x.sr)),str (cutD d x.a x.b),.slice none 0 0]:=hR
 generalize decide (1≤x.sr)=ck at hR
 refine Aa8 ?_;refine BD ?_;refine Ab8 ?_;refine Aar ?_;refine BD ?_;refine CK ?_;refine Ab4 ?_;refine A4 ?_; rintro _ _ ⟨b,rfl,rfl⟩;refine AY ?_; rintro _ _ ⟨rfl,rfl⟩;refine Acb ?_;refine Aad ?_
 revert b; intro b9
 refine AS (ρ:=sng b9 _) takeZ ?_
 have bx304_3:=rdB b9 56 [int E,int 1,int se,int x.sr,int (x.a:Int),int (d.length:Int),.bool ck,str (cutD d x.a x.b),.slice none 0 0]
 have o0:=rdC bx304_3 0
 have o3:=rdC bx304_3 3
 by_cases hlate:e<E
 ·refine DA ?_
  refine Aa6 ?_;refine Abk ?_;refine Aau ?_;refine AT hfa rfl rfl rdZ rfl rfl ?_;rintro _ rfl;refine AY ?_; rintro _ _ ⟨rfl,rfl⟩;refine Aaa ?_;exact AK (resSE (v1:=[int c.f,int c.t,int c.s,int c.e,int c.r,int c.g,int c.l,int se,str d,int e,int busy,int sr,.slice p K.length k,int 0,int 3]) rfl rfl rfl rfl rfl (cells_own memZ)) rsubZ selZ (.inl ⟨hlate,rfl,rfl⟩)
 have hdu:=hdu (by omega)
 refine BO ?_;refine AB ?_;refine AG ?_;refine DQ ?_;refine AF ?_;refine BO ?_;refine Aa4 ?_;refine AD ?_
 refine BB (.q 0 (.q 1 (.p 2 (.p 3 (.p 4 (.q 5 (.l 6 .b (.q 7 (.l 8 .b (.q 9 (.l 10 .b .nil))))))))))) [] rfl (by kernel_rfl) selZ ?_
 refine Aan ?_;refine E6 ?_;refine zp_fld ?_;refine GU ?_;refine A2 ?_;refine CT ?_; rintro _ _ ⟨rfl,rfl⟩;refine A2 ?_;refine CT ?_; rintro _ _ ⟨rfl,rfl⟩;refine A2 ?_;refine CT ?_; rintro _ _ ⟨rfl,rfl⟩;refine A8 ?_;refine Aau ?_;refine AT hdu rfl rfl rdZ rfl rfl ?_;rintro _ rfl;refine AG ?_;refine BC ?_; rintro _ _ ⟨rfl,rfl⟩;refine AE ?_;refine Aau ?_;refine AB ?_;refine AY ?_; rintro _ _ ⟨rfl,rfl⟩;refine Aaa ?_
 exact AK (H':=[σ]) (resSE (v1:=[int c.f,int c.t,int c.s,int c.e,int c.r,int c.g,int c.l,int se,str d,int e,int E,int x.sr,.slice p K.length k,int (E+2*c.g+1),int 1]) rfl rfl rfl rfl rfl (cells_own memZ)) rsubZ selZ (.inr ⟨by omega,_,_,σ,rfl,by have h:=hO; rw [htl] at h; exact h,rfl⟩)
end Go.Proofs.YtekcielcagdcmaaGreatDoor
namespace Go.Eng
variable {C:Cx} {D:List Deferred} {R H:List PH} {L:Env} {K:List It}
variable {dst:Option Tmp} {ty:TypeId} {pos:String} {aft:Array Edge} {g:Option (Nat × Bool)}
def entv:Nat→List (Int × Value)→List MapEntry
  | _,[]=>[]
  | i,kv::m=>⟨int kv.1,kv.2,i⟩::entv (i+1) m
def mapV (m:List (Int × Value)):Obj:=.map (entv 0 m).toArray m.length
def midv (k:Int):List (Int × Value)→Option (Nat × Value)
  | []=>none
  | (a,v)::m=>if k=a then some (0,v) else (midv k m).map (fun p=>(p.1+1,p.2))
def mgev (k:Int) (m:List (Int × Value)):Option Value:=(midv k m).map (·.2)
def msev (k:Int) (v:Value):List (Int × Value)→List (Int × Value)
  | []=>[(k,v)]
  | (a,w)::m=>if k=a then (a,v)::m else (a,w)::msev k v m
theorem findNow_entv (k:Int):∀ (m:List (Int × Value)) (i j:Nat),Instr.findNow (.int .i64) (int k) (entv i m) j=some ((midv k m).map (fun p=>(j+p.1,p.2)))
  | [],i,j=>rfl
  | (a,v)::m,i,j=>by
    by_cases h:k=a
    · subst h
      simp [entv,Instr.findNow,Instr.sameNow,midv,int]
    · have ih:=findNow_entv k m (i+1) (j+1)
      have hs:Instr.sameNow (.int .i64) (int k) (int a)=some false:=by simp [Instr.sameNow,int,h]
      simp only [entv,Instr.findNow,hs,midv,if_neg h,ih,Option.map_map]
      congr 2
      funext p
      show (j+1+p.1,p.2)=(j+(p.1+1),p.2)
      rw [show j+1+p.1=j+(p.1+1) by omega]
theorem msev_none {k:Int} {v:Value}:∀ {m:List (Int × Value)} (i:Nat),midv k m=none→entv i m ++ [⟨int k,v,i+m.length⟩]=entv i (msev k v m)∧(msev k v m).length=m.length+1
  | [],i,_=>⟨rfl,rfl⟩
  | (a,w)::m,i,h=>by
    unfold midv at h
    split at h
    · exact absurd h (by simp)
    · rename_i hk
      have h':midv k m=none:=by simpa using h
      obtain ⟨e,l⟩:=msev_none (k:=k) (v:=v) (m:=m) (i+1) h'
      simp only [msev,if_neg hk,entv,List.cons_append,List.length_cons,l,and_true,← e]
      congr 4
      omega
theorem msev_some {k:Int} {v:Value}:∀ {m:List (Int × Value)} (i n:Nat) (w:Value),midv k m=some (n,w)→(entv i m).modify n (fun e=>{ e with key:=int k,val:=v })=entv i (msev k v m)∧(msev k v m).length=m.length∧n<m.length∧((entv i m)[n]?).map (·.key)=some (int k)
  | [],i,n,w,h=>by simp [midv] at h
  | (a,u)::m,i,n,w,h=>by
    unfold midv at h
    split at h
    · rename_i hk
      subst hk
      simp at h
      obtain ⟨rfl,rfl⟩:=h
      simp [entv,msev]
    · rename_i hk
      cases hm:midv k m with
      | none=>rw [hm] at h; simp at h
      | some p =>
        rw [hm] at h
        simp at h
        obtain ⟨rfl,rfl⟩:=h
        obtain ⟨e,l,l2,l3⟩:=msev_some (k:=k) (v:=v) (m:=m) (i+1) p.1 p.2 hm
        simp only [msev,if_neg hk,entv,List.length_cons,l,List.modify_succ_cons,e]
        refine ⟨trivial,trivial,by omega,?_⟩
        simpa using l3
theorem run_findKeyV {P:Program} {w:World} {kt:TypeId} {k:Int} {l:List (Int × Value)} (hkt:P.underlying kt=some (.int .i64)):(Instr.findKey kt (int k) (entv 0 l)).run P w=.ok ((midv k l).map (fun p=>(p.1,p.2))) w:=by
  have hf:=findNow_entv k l 0 0
  simp only [Nat.zero_add] at hf
  simp [Instr.findKey,Go.underlying,Sem.run,hkt,hf]
theorem run_lookupV {P:Program} {w:World} {t kt et:TypeId} {b:Nat} {k:Int} {l:List (Int × Value)} {ok:Bool} (ht:P.underlying t=some (.map kt et)) (hkt:P.underlying kt=some (.int .i64)) {z:Value} (hz:zeroP P et=some z) (hg:w.heap[b]?=some (mapV l)) :
    (Instr.lookup t (.map (some b)) (int k) ok).run P w=.ok (if ok then .tuple #[(mgev k l).getD z,.bool (mgev k l).isSome] else (mgev k l).getD z) w:=by
  have hf:=run_findKeyV (P:=P) (w:=w) (k:=k) (l:=l) hkt
  have hc:=fun e=>run_checkKey (P:=P) (w:=w) (k:=k) e 9999 hkt
  simp only [Nat.reduceAdd] at hc;unfold mgev
  cases hm:midv k l with
  | none =>
    rw [hm] at hf
    simp [Instr.lookup,Go.underlying,Sem.run,ht,getObj,hg,mapV,hc,hf,run_zeroValue hz]
    done
  | some p =>
    rw [hm] at hf
    simp [Instr.lookup,Go.underlying,Sem.run,ht,getObj,hg,mapV,hc,hf]
    done
def MapVAt (N:Bs) (R H:List PH) (b:Nat) (l:List (Int × Value)):Prop:=∀ w,Sat N R H w→w.heap[b]?=some (mapV l)
theorem mapVAt_own {N:Bs} {b:Nat} {l:List (Int × Value)} (m:Mem (sng b (mapV l)) H):MapVAt N R H b l:=fun w hs=>hs.h _ m.mem b _ (sng_self b _)
theorem FT {x y:Operand} {t kt et:TypeId} {b:Nat} {k:Int} {l:List (Int × Value)} (h:evalE L x=some (.map (some b))) (hk:evalE L y=some (int k)) (ht:C.P.underlying t=some (.map kt et)) (hkt:C.P.underlying kt=some (.int .i64)) {z:Value} (hz:zeroP C.P et=some z) (hm:MapVAt C.N R H b l) :
    Quiet C R H L ⟨dst,.lookup t x y true,ty,pos,aft,g⟩ (.tuple #[(mgev k l).getD z,.bool (mgev k l).isSome]):=
  ⟨by intro c; simp,fun a w hx hs=>by
    have e1:=hx x (by simp [Op.operands]) _ h
    have e2:=hx y (by simp [Op.operands]) _ hk
    simp [execOp,e1,e2,run_lookupV ht hkt hz (hm w hs)]⟩
theorem E9 {x y:Operand} {t kt et:TypeId} {b:Nat} {k:Int} {l:List (Int × Value)} {v:Value} (h:evalE L x=some (.map (some b))) (hk:evalE L y=some (int k)) (ht:C.P.underlying t=some (.map kt et)) (hkt:C.P.underlying kt=some (.int .i64)) {z:Value} (hz:zeroP C.P et=some z) (hm:MapVAt C.N R H b l) (hv:mgev k l=some v) :
    Quiet C R H L ⟨dst,.lookup t x y true,ty,pos,aft,g⟩ (.tuple #[v,.bool true]):=by
  have:=FT (C:=C) (R:=R) (H:=H) (dst:=dst) (ty:=ty) (pos:=pos) (aft:=aft) (g:=g) h hk ht hkt hz hm
  rw [hv] at this;exact this
theorem FU {t:TypeId}:Loud C R H L ⟨dst,.makeMap t none,ty,pos,aft,g⟩ (fun v H'=>∃ b,v=.map (some b)∧H'=sng b (mapV [])::H):=F1
theorem run_mapUpdateV {P:Program} {w:World} {t kt et:TypeId} {b:Nat} {k:Int} {v:Value} {l:List (Int × Value)} (ht:P.underlying t=some (.map kt et)) (hkt:P.underlying kt=some (.int .i64)) (hg:w.heap[b]?=some (mapV l)) :
    (Instr.mapUpdate t (.map (some b)) (int k) (v)).run P w=.ok () { w with heap:=w.heap.setIfInBounds b (mapV (msev k v l)) }:=by
  have hf:=run_findKeyV (P:=P) (w:=w) (k:=k) (l:=l) hkt
  have hc:=fun e=>run_checkKey (P:=P) (w:=w) (k:=k) e 9999 hkt
  simp only [Nat.reduceAdd] at hc
  cases hm:midv k l with
  | none =>
    rw [hm] at hf
    obtain ⟨e,n⟩:=msev_none (k:=k) (v:=v) 0 hm
    have e2:mapV (msev k v l)=.map ((entv 0 l).toArray.push ⟨int k,v,l.length⟩) (l.length+1):=by
      unfold mapV; rw [n,← e]; simp
    rw [e2]
    simp [Instr.mapUpdate,Go.underlying,Sem.run,ht,getObj,hg,mapV,hc,hf,setObj]
    done
  | some p =>
    rw [hm] at hf
    obtain ⟨e,n,n2,n3⟩:=msev_some (k:=k) (v:=v) 0 p.1 p.2 hm
    have e2:mapV (msev k v l)=.map ((entv 0 l).toArray.modify p.1 (fun e=>{ e with key:=int k,val:=v })) l.length:=by
      unfold mapV; rw [n,← e]; simp
    rw [e2]
    have hsb:Instr.sameBits 10000 (int k) (int k)=true:=by simp [Instr.sameBits,int]
    have hks:(Instr.keyThatStays (int k) (int k)).run P w=.ok (int k) w:=by simp [Instr.keyThatStays,hsb]
    simp [Instr.mapUpdate,Go.underlying,Sem.run,ht,getObj,hg,mapV,hc,hf,setObj,n3,hks]
    done
theorem D3 {x y z:Operand} {t kt et:TypeId} {b:Nat} {k:Int} {v:Value} {l:List (Int × Value)} {H':List PH} (h:evalE L x=some (.map (some b))) (hk:evalE L y=some (int k)) (hv:evalE L z=some (v)) (ht:C.P.underlying t=some (.map kt et)) (hkt:C.P.underlying kt=some (.int .i64)) (hm:Take (sng b (mapV l)) H H') :
    Loud C R H L ⟨dst,.insert t x y z,ty,pos,aft,g⟩ (fun u H2=>u=undef∧H2=sng b (mapV (msev k v l))::H'):=by
  refine ⟨fun a w hx hs next Q hnx=>?_⟩
  have hg:=hs.own hm
  have e1:=hx x (by simp [Op.operands]) _ h
  have e2:=hx y (by simp [Op.operands]) _ hk
  have e3:=hx z (by simp [Op.operands]) _ hv
  refine wpIn_skipv (w':={ w with heap:=w.heap.setIfInBounds b (mapV (msev k v l)) }) (by intro c; simp) ?_ (hnx _ _ _ ⟨rfl,rfl⟩ (hs.turn hm ?_ ?_ ?_))
  · simp [execOp,e1,e2,e3,run_mapUpdateV ht hkt hg]
  · simp
  · have:b<w.heap.size:=by
      rw [Array.getElem?_eq_some_iff] at hg; exact hg.1
    simp [this]
  · intro k hk; simp [Array.getElem?_setIfInBounds,Ne.symm hk]
end Go.Eng
namespace Go.Eng
variable {C:Cx} {D:List Deferred} {R Hf H:List PH} {L:Env} {K:List It} {ps ls:List Nat}
end Go.Eng
namespace Go.Proofs.YtekcielcagdcmaaGreatDoor
open Go.Eng Go.Step
set_option maxRecDepth 100000
set_option maxHeartbeats 64000000
theorem sndMissing_spec {ρ:PH} {c:Ct} {se e busy sr due st:Int} {d:List UInt8} {K:Iv} {p:Option Addr} {k:Nat} (hv:SpAt ρ (.slice p K.length k) K) (hn1:1≤d.length) (hn:d.length≤990) (hK:InI d.length K) :
  Makes Tryz.prog (fv 134) [.agg #[int c.f,int c.t,int c.s,int c.e,int c.r,int c.g,int c.l,int se,str d,int e,int busy,int sr,.slice p K.length k,int due,int st]] [ρ] (fun r σ=>∃ p' c',r=.slice p' (missI d.length K).length c'∧OwnS 77 2 (.slice p' (missI d.length K).length c') (missI d.length K).length ((missI d.length K).flatMap encS) σ):=by
 have hKl:=hK.len (by omega)
 have hwh:=InI.whole (n:=(d.length:Int)) (by omega)
 have hw:=sndWhole_spec d
 have hMi:=fun bn=>snMinus_spec (sng bn (.cells #[int 0,int (d.length:Int)] 77 (0,0))) ρ (.slice (some ⟨bn,0,none⟩) 1 1) _ [((0:Int),(d.length:Int))] K (slE_sng (l:=[((0:Int),(d.length:Int))]) encS_len) hv (hwh.chk (by omega) (by omega)) (hK.chk (by omega) (by omega)) (by simp; omega)
 refine spec_in (cap:=[]) Tryz.func134 rfl rfl Tryz.ntmps134 rfl envZ (fun N β=>?_)
 refine Aa ?_;refine BJ (BL rfl) rfl rfl rfl ?_;rintro _ _ ⟨b1,rfl,rfl⟩;refine AS (ρ:=sng b1 _) takeZ ?_
 have cs:=rdB b1 97 [int c.f,int c.t,int c.s,int c.e,int c.r,int c.g,int c.l,int se,str d,int e,int busy,int sr,.slice p K.length k,int due,int st]
 have cs0:=rdC cs 0
 have cs1:=rdC cs 1
 have cs2:=rdC cs 2
 have cs3:=rdC cs 3
 have cs4:=rdC cs 4
 have cs5:=rdC cs 5
 have cs6:=rdC cs 6
 have cs7:=rdC cs 7
 have cs8:=rdC cs 8
 have cs9:=rdC cs 9
 have cs10:=rdC cs 10
 have cs11:=rdC cs 11
 have cs12:=rdC cs 12
 have cs13:=rdC cs 13
 have cs14:=rdC cs 14
 refine Ad ?_
 refine BB (.q 0 (.q 1 (.q 3 (.q 4 (.l 2 .e (.l 5 .e (.q 6 (.q 7 (.q 8 (.q 9 (.q 10 .nil))))))))))) [] rfl (by kernel_rfl) selZ ?_
 refine Adk ?_;refine BQ (DN rfl hw rfl rfl rdZ rfl rfl ?_);rintro _ _ ⟨bn,rfl,rfl⟩
 skip
 refine BQ (BX rfl (hMi bn) rfl rfl rdZ rfl rfl ?_);rintro _ _ ⟨σ,⟨p',c',rfl,hO⟩,rfl⟩;refine AL ?_;refine A7 ?_;refine A7 ?_;refine Abo ?_;refine Abi ?_;exact AK (res1 rfl rfl) rsubZ selZ ⟨σ,⟨p',c',rfl,hO⟩,rfl⟩
theorem sndBatch_spec {ρ:PH} {c:Ct} {se e busy sr due st:Int} {d:List UInt8} {K:Iv} {p:Option Addr} {k:Nat} (hv:SpAt ρ (.slice p K.length k) K) (hn1:1≤d.length) (hn:d.length≤990) (hK:InI d.length K) (hw:K≠[((0:Int),(d.length:Int))]) (hse:0≤se∧se≤1099511627776) (hsr:0≤sr∧sr+1≤1099511627776) :
  Makes Tryz.prog (fv 91) [.agg #[int c.f,int c.t,int c.s,int c.e,int c.r,int c.g,int c.l,int se,str d,int e,int busy,int sr,.slice p K.length k,int due,int st]] [ρ] (fun r σ=>∃ p' c',r=.slice p' (bat (sr+1) (pcsAll (missI d.length K))).length c'∧OwnS 54 8 (.slice p' (bat (sr+1) (pcsAll (missI d.length K))).length c') (bat (sr+1) (pcsAll (missI d.length K))).length ((bat (sr+1) (pcsAll (missI d.length K))).flatMap (encG se d)) σ):=by
 have hmi:=sndMissing_spec (c:=c) (se:=se) (e:=e) (busy:=busy) (sr:=sr) (due:=due) (st:=st) hv hn1 hn hK
 have hMo:=(missI_ok hK (by omega)).1
 have hMn:=missI_ne hK (by omega) hw
 have hba:=fun {ρ:PH} {v:Value} (hv:SpAt ρ v (missI d.length K))=>segBatch_spec (se:=se) (sr:=sr+1) hv hMo hMn hn1 (by omega) hse (by omega)
 refine spec_in (cap:=[]) Tryz.func91 rfl rfl Tryz.ntmps91 rfl envZ (fun N β=>?_)
 refine Aa ?_;refine BJ (BL rfl) rfl rfl rfl ?_;rintro _ _ ⟨b1,rfl,rfl⟩;refine AS (ρ:=sng b1 _) takeZ ?_
 have cs:=rdB b1 97 [int c.f,int c.t,int c.s,int c.e,int c.r,int c.g,int c.l,int se,str d,int e,int busy,int sr,.slice p K.length k,int due,int st]
 have cs0:=rdC cs 0
 have cs1:=rdC cs 1
 have cs2:=rdC cs 2
 have cs3:=rdC cs 3
 have cs4:=rdC cs 4
 have cs5:=rdC cs 5
 have cs6:=rdC cs 6
 have cs7:=rdC cs 7
 have cs8:=rdC cs 8
 have cs9:=rdC cs 9
 have cs10:=rdC cs 10
 have cs11:=rdC cs 11
 have cs12:=rdC cs 12
 have cs13:=rdC cs 13
 have cs14:=rdC cs 14
 refine Ad ?_
 refine BB (.q 0 (.q 1 (.q 2 (.q 3 (.q 4 (.q 5 (.q 6 (.q 7 (.l 8 .e (.l 9 .e (.q 10 (.q 11 (.q 12 (.q 13 (.q 14 .nil))))))))))))))) [] rfl (by kernel_rfl) selZ ?_
 refine Adk ?_;refine DI ?_;refine Aan ?_;refine BP ?_;refine BQ (BX rfl hmi rfl rfl rdZ rfl rfl ?_);rintro _ _ ⟨σ,⟨p',c',rfl,hO⟩,rfl⟩
 skip
 refine BQ (BX rfl (hba hO.at) rfl rfl rdZ rfl rfl ?_);rintro _ _ ⟨σ2,⟨p2,c2,rfl,hO2⟩,rfl⟩;refine AL ?_;refine A7 ?_;refine A7 ?_;refine Abo ?_;refine Abi ?_;exact AK (res1 rfl rfl) rsubZ selZ ⟨σ2,⟨p2,c2,rfl,hO2⟩,rfl⟩
theorem sndStart_spec (c:Ct) {se t0 e:Int} {d:List UInt8} (hn:d.length≤990) (hse:0≤se∧se≤1099511627776) :
  Eng.Spec Tryz.prog (fv 49) [.agg #[int c.f,int c.t,int c.s,int c.e,int c.r,int c.g,int c.l],int se,str d,int t0,int e] [] [] (fun r H'=>(stE c d t0 e≠0∧r=.tuple #[.agg #[int 0,int 0,int 0,int 0,int 0,int 0,int 0,int 0,str [],int 0,int 0,int 0,.slice none 0 0,int 0,int 0],.slice none 0 0,int (stE c d t0 e)]∧H'=[]) ∨
   (stE c d t0 e=0∧(chkCt c=0∧1≤d.length∧c.s≤t0∧t0≤e∧e≤c.e∧(endG c.r t0 (bat 1 (pcsAll (missI d.length []))))≤e)∧∃ p' c' σ,r=.tuple #[.agg #[int c.f,int c.t,int c.s,int c.e,int c.r,int c.g,int c.l,int se,str d,int e,int (endG c.r t0 (bat 1 (pcsAll (missI d.length [])))),int 1,.slice none 0 0,int ((endG c.r t0 (bat 1 (pcsAll (missI d.length []))))+2*c.g+1),int 1],.slice p' (bat 1 (pcsAll (missI d.length []))).length c',int 0]∧OwnS 56 9 (.slice p' (timed c.r t0 (bat 1 (pcsAll (missI d.length [])))).length c') (timed c.r t0 (bat 1 (pcsAll (missI d.length [])))).length ((timed c.r t0 (bat 1 (pcsAll (missI d.length [])))).flatMap (encO se d)) σ∧H'=[σ])):=by
 have hcc:=ctCheck_spec c
 obtain ⟨h6,h7⟩:=hse
 refine spec_in (cap:=[]) Tryz.func49 rfl rfl Tryz.ntmps49 rfl envZ (fun N β=>?_)
 refine CG ?_;refine AS (ρ:=emp) takeZ ?_;refine Aa ?_;refine BJ (BL rfl) rfl rfl rfl ?_;rintro _ _ ⟨b5,rfl,rfl⟩;refine AS (ρ:=sng b5 _) takeZ ?_
 have cc:=rdB b5 23 [int c.f,int c.t,int c.s,int c.e,int c.r,int c.g,int c.l]
 have cc0:=rdC cc 0
 have cc1:=rdC cc 1
 have cc2:=rdC cc 2
 have cc3:=rdC cc 3
 have cc4:=rdC cc 4
 have cc5:=rdC cc 5
 have cc6:=rdC cc 6
 refine A4 ?_; rintro _ _ ⟨b,rfl,rfl⟩;refine Ac6 ?_
 revert b; intro b10
 by_cases hc:chkCt c=0
 rotate_left
 ·have hE:stE c d t0 e=1:=if_pos hc
  refine AT hcc rfl rfl rdZ rfl rfl ?_;rintro _ rfl;refine C8 ?_;refine Acy ?_
  focus ((refine BT (CM (out:=[int 0,int 0,int 0,int 0,int 0,int 0,int 0,int 0,str [],int 0,int 0,int 0,.slice none 0 0,int 0,int 0]) rfl rfl rfl rfl rfl) rfl rfl rfl ?_))
  refine AY ?_; rintro _ _ ⟨rfl,rfl⟩;refine Aaj ?_
  exact AK (resSEE (b1:=b10) (T:=97) (v1:=[int 0,int 0,int 0,int 0,int 0,int 0,int 0,int 0,str [],int 0,int 0,int 0,.slice none 0 0,int 0,int 0]) rfl rfl rfl rfl rfl rfl (cells_own memZ)) rsubZ selZ (.inl ⟨by rw [hE]; decide,by rw [hE],rfl⟩)
 rw [hc] at hcc;refine AT hcc rfl rfl rdZ rfl rfl ?_;rintro _ rfl;refine Add ?_;refine AT (sndIn_spec h6 h7) rfl rfl rdZ rfl rfl ?_;rintro _ rfl;refine Abr ?_;refine Aah ?_;refine BT (E8 rfl rfl) rfl rfl rfl ?_
 by_cases hd:d=[]
 ·have hE:stE c d t0 e=20:=by unfold stE; rw [if_neg (fun h=>h hc),if_pos hd]
  rw [show (d == [])=true by rw [hd]; rfl]
  refine Acy ?_
  focus ((refine BT (CM (out:=[int 0,int 0,int 0,int 0,int 0,int 0,int 0,int 0,str [],int 0,int 0,int 0,.slice none 0 0,int 0,int 0]) rfl rfl rfl rfl rfl) rfl rfl rfl ?_))
  refine AY ?_; rintro _ _ ⟨rfl,rfl⟩;refine Aaj ?_
  exact AK (resSEE (b1:=b10) (T:=97) (v1:=[int 0,int 0,int 0,int 0,int 0,int 0,int 0,int 0,str [],int 0,int 0,int 0,.slice none 0 0,int 0,int 0]) rfl rfl rfl rfl rfl rfl (cells_own memZ)) rsubZ selZ (.inl ⟨by rw [hE]; decide,by rw [hE],rfl⟩)
 have hd0:(d == [])=false:=by
  cases d with
  | nil=>exact absurd rfl hd
  | cons _ _=>rfl
 have hn1:1≤d.length:=List.length_pos_iff.2 hd
 rw [hd0];refine Aag ?_;refine Aah ?_
 focus ((refine' BT _ rfl rfl rfl _; rotate_left; (apply B0; exact rfl; exact rfl)))
 refine Adg ?_;refine Aah ?_;refine Aad ?_
 by_cases hb:c.s≤t0∧t0≤e∧e≤c.e
 rotate_left
 ·have hE:stE c d t0 e=2:=by unfold stE; rw [if_neg (fun h=>h hc),if_neg hd,if_pos hb]
  by_cases hb1:t0<c.s
  ·refine B7 ?_
   refine Aa3 ?_;refine Ac3 ?_;refine Adc ?_
   focus ((refine BT (CM (out:=[int 0,int 0,int 0,int 0,int 0,int 0,int 0,int 0,str [],int 0,int 0,int 0,.slice none 0 0,int 0,int 0]) rfl rfl rfl rfl rfl) rfl rfl rfl ?_))
   refine AY ?_; rintro _ _ ⟨rfl,rfl⟩;refine Aaj ?_
   exact AK (resSEE (b1:=b10) (T:=97) (v1:=[int 0,int 0,int 0,int 0,int 0,int 0,int 0,int 0,str [],int 0,int 0,int 0,.slice none 0 0,int 0,int 0]) rfl rfl rfl rfl rfl rfl (cells_own memZ)) rsubZ selZ (.inl ⟨by rw [hE]; decide,by rw [hE],rfl⟩)
  ·by_cases hb2:e<t0
   ·refine BK ?_
    refine Abq ?_;refine Ado ?_;refine Aa6 ?_;refine Adc ?_
    focus ((refine BT (CM (out:=[int 0,int 0,int 0,int 0,int 0,int 0,int 0,int 0,str [],int 0,int 0,int 0,.slice none 0 0,int 0,int 0]) rfl rfl rfl rfl rfl) rfl rfl rfl ?_))
    refine AY ?_; rintro _ _ ⟨rfl,rfl⟩;refine Aaj ?_
    exact AK (resSEE (b1:=b10) (T:=97) (v1:=[int 0,int 0,int 0,int 0,int 0,int 0,int 0,int 0,str [],int 0,int 0,int 0,.slice none 0 0,int 0,int 0]) rfl rfl rfl rfl rfl rfl (cells_own memZ)) rsubZ selZ (.inl ⟨by rw [hE]; decide,by rw [hE],rfl⟩)
   ·refine BK ?_
    refine Abq ?_;refine BO ?_;refine AP ?_;refine AB ?_;refine Aak ?_;refine Ado ?_;refine Acy ?_
    focus ((refine BT (CM (out:=[int 0,int 0,int 0,int 0,int 0,int 0,int 0,int 0,str [],int 0,int 0,int 0,.slice none 0 0,int 0,int 0]) rfl rfl rfl rfl rfl) rfl rfl rfl ?_))
    refine AY ?_; rintro _ _ ⟨rfl,rfl⟩;refine Aaj ?_
    exact AK (resSEE (b1:=b10) (T:=97) (v1:=[int 0,int 0,int 0,int 0,int 0,int 0,int 0,int 0,str [],int 0,int 0,int 0,.slice none 0 0,int 0,int 0]) rfl rfl rfl rfl rfl rfl (cells_own memZ)) rsubZ selZ (.inl ⟨by rw [hE]; decide,by rw [hE],rfl⟩)
 obtain ⟨hb1,hb2,hb3⟩:=hb
 have hcs:=chkCt_se hc
 have hnil:([]:Iv)≠[((0:Int),(d.length:Int))]:=by simp
 have hba:=sndBatch_spec (ρ:=emp) (c:=⟨0,0,0,0,0,0,0⟩) (se:=se) (e:=0) (busy:=0) (sr:=0) (due:=0) (st:=0) (d:=d) (K:=[]) (p:=none) (k:=0) ((OwnS.nil 77 2).at) hn1 hn (InI.nil _) hnil ⟨h6,h7⟩ (by omega)
 obtain ⟨hMo,_⟩:=missI_ok (InI.nil (d.length:Int)) (by omega)
 have hMn:=missI_ne (InI.nil (d.length:Int)) (by omega) hnil
 have hG:=bat_ok (sr:=1) hMo (by omega) (by omega)
 obtain ⟨x,hx,hxs⟩:=bat_last (sr:=1) (pcsAll_ne hMo.1 (fun x hx=>(hMo.at x hx).1) hMn)
 have hbl:(bat 1 (pcsAll (missI d.length []))).length≤1000000:=by rw [bat_len]; have:=pcsAll_len hMo (by omega); omega
 have hse2:=fun {ρ:PH} {v:Value} (hv:SlE (encG se d) 8 ρ v (bat 1 (pcsAll (missI d.length []))))=>sndSend_spec (c:=c) (se:=se) (e:=e) (busy:=0) (sr:=0) (due:=0) (st:=0) (t0:=t0) (K:=[]) (p:=none) (k:=0) hv hG hn ⟨h6,h7⟩ hc hb3 (by omega) hbl hx
 rw [hxs] at hse2
 have hst:stE c d t0 e=if e<(endG c.r t0 (bat 1 (pcsAll (missI d.length [])))) then 16 else 0:=by unfold stE; rw [if_neg (fun h=>h hc),if_neg hd,if_neg (fun h=>h ⟨hb1,hb2,hb3⟩)]
 have z1:(0:Int)+1=1:=rfl
 simp only [z1] at hba
 generalize hGG:(bat 1 (pcsAll (missI d.length [])))=G at *
 generalize hEE:endG c.r t0 G=E at *
 refine BK ?_;refine Abq ?_;refine BO ?_;refine AP ?_;refine AB ?_;refine Aak ?_;refine BO ?_;refine Aa4 ?_;refine AD ?_
 refine DG (X:=Nat × List Value × Value × List PH) [5,10] (fun z=>(e<E∧z.2.1=[int c.f,int c.t,int c.s,int c.e,int c.r,int c.g,int c.l,int se,str d,int e,int 0,int 0,.slice none 0 0,int 0,int 3]∧z.2.2.1=.slice none 0 0∧z.2.2.2=[])∨(E≤e∧z.2.1=[int c.f,int c.t,int c.s,int c.e,int c.r,int c.g,int c.l,int se,str d,int e,int E,int 1,.slice none 0 0,int (E+2*c.g+1),int 1]∧∃ p2 c2 σ2,z.2.2.1=.slice p2 G.length c2∧OwnS 56 9 (.slice p2 (timed c.r t0 G).length c2) (timed c.r t0 G).length ((timed c.r t0 G).flatMap (encO se d)) σ2∧z.2.2.2=[σ2])) (fun z=>[(13,.pointer (some ⟨z.1,0,none⟩)),(14,z.2.2.1)]) (fun z=>sng z.1 (.cells z.2.1.toArray 97 (0,0))::sng b10 (.cells #[int 0,int 0,int 0,int 0,int 0,int 0,int 0,int 0,str [],int 0,int 0,int 0,.slice none 0 0,int 0,int 0] 97 (0,0))::z.2.2.2) pickZ ?_ ?_
 ·refine BB (.q 0 (.q 1 (.q 2 (.q 3 (.q 4 (.q 5 (.q 6 (.q 7 (.q 8 (.l2 9 .e (.l2 10 .e (.q 11 (.q 12 (.p 13 (.l 14 .e (.l 15 .b (.q 16 .nil)))))) 14 .e (.l 10 .e (.q 11 (.q 12 (.p 13 (.l 15 .b (.q 16 .nil))))))) 14 .e (.l 9 .e (.l 10 .e (.q 11 (.q 12 (.p 13 (.l 15 .b (.q 16 .nil))))))))))))))))) [] rfl (by kernel_rfl) Sel.nil ?_
  repeat' (first
   | (refine AL ?_)
   | (refine BP ?_)
   | (focus ((refine CJ rfl (CM (out:=[int c.f,int c.t,int c.s,int c.e,int c.r,int c.g,int c.l,int se,str d,int e,int 0,int 0,.slice none 0 0,int 0,int 0]) rfl rfl rfl rfl rfl) rfl rfl rfl rfl ?_)))
   | (focus ((refine CJ rfl (CM (out:=[int 0,int 0,int 0,int 0,int 0,int 0,int 0,int se,str d,int 0,int 0,int 0,.slice none 0 0,int 0,int 0]) rfl rfl rfl rfl rfl) rfl rfl rfl rfl ?_)))
   | (refine C4 ?_ ?_)
   | (refine CC ?_; rintro _ _ ⟨b,rfl,rfl⟩)
   | fail)
  ·refine BX rfl hba rfl rfl rdZ rfl rfl ?_
   rintro _ _ ⟨σ,⟨p',c',rfl,hO⟩,rfl⟩
   repeat' (first
    | (refine C4 ?_ ?_)
    | (refine CC ?_; rintro _ _ ⟨b,rfl,rfl⟩)
    | fail)
   ·refine BX rfl (hse2 hO.at) rfl rfl rdZ rfl rfl ?_
    rintro _ _ (⟨hlate,rfl,rfl⟩|⟨hok,p2,c2,σ2,rfl,hO2,rfl⟩)
    ·refine AL ?_
     refine Aaz ?_;refine B5 ?_; rintro _ _ ⟨b,rfl,rfl⟩
     revert b; intro b13
     skip
     refine BQ ?_;refine' CO rfl _ rfl rfl _ _
     rotate_left
     ·apply BA; exact rfl; exact rfl; exact takeZ; exact oneZ; exact rfl; exact rfl
     ·rintro _ _ ⟨_,rfl⟩ w hw; exact hw.sel Sel.nil
     rintro _ _ ⟨rfl,rfl⟩;refine Aaq ?_
     skip
     exact BF (b13,[int c.f,int c.t,int c.s,int c.e,int c.r,int c.g,int c.l,int se,str d,int e,int 0,int 0,.slice none 0 0,int 0,int 3],.slice none 0 0,[]) (.inl ⟨hlate,rfl,rfl,rfl⟩) covZ selZ
    ·refine AL ?_
     refine Aaz ?_;refine B5 ?_; rintro _ _ ⟨b,rfl,rfl⟩
     revert b; intro b13
     skip
     refine BQ ?_;refine' CO rfl _ rfl rfl _ _
     rotate_left
     ·apply BA; exact rfl; exact rfl; exact takeZ; exact oneZ; exact rfl; exact rfl
     ·rintro _ _ ⟨_,rfl⟩ w hw; exact hw.sel Sel.nil
     rintro _ _ ⟨rfl,rfl⟩;refine Aaq ?_
     skip
     exact BF (b13,[int c.f,int c.t,int c.s,int c.e,int c.r,int c.g,int c.l,int se,str d,int e,int E,int 1,.slice none 0 0,int (E+2*c.g+1),int 1],.slice p2 G.length c2,[σ2]) (.inr ⟨by omega,rfl,p2,c2,σ2,rfl,hO2,rfl⟩) covZ selZ
   ·revert b; intro b13
    refine BQ (BX rfl (hse2 hO.at) rfl rfl rdZ rfl rfl ?_);rintro _ _ (⟨hlate,rfl,rfl⟩|⟨hok,p2,c2,σ2,rfl,hO2,rfl⟩)
    ·refine AL ?_
     refine Abl ?_;refine' CO rfl _ rfl rfl _ _
     rotate_left
     ·apply BA; exact rfl; exact rfl; exact takeZ; exact oneZ; exact rfl; exact rfl
     ·rintro _ _ ⟨_,rfl⟩ w hw; exact hw.sel Sel.nil
     rintro _ _ ⟨rfl,rfl⟩;refine Aaq ?_
     skip
     exact BF (b13,[int c.f,int c.t,int c.s,int c.e,int c.r,int c.g,int c.l,int se,str d,int e,int 0,int 0,.slice none 0 0,int 0,int 3],.slice none 0 0,[]) (.inl ⟨hlate,rfl,rfl,rfl⟩) covZ selZ
    ·refine AL ?_
     refine Abl ?_;refine' CO rfl _ rfl rfl _ _
     rotate_left
     ·apply BA; exact rfl; exact rfl; exact takeZ; exact oneZ; exact rfl; exact rfl
     ·rintro _ _ ⟨_,rfl⟩ w hw; exact hw.sel Sel.nil
     rintro _ _ ⟨rfl,rfl⟩;refine Aaq ?_
     skip
     exact BF (b13,[int c.f,int c.t,int c.s,int c.e,int c.r,int c.g,int c.l,int se,str d,int e,int E,int 1,.slice none 0 0,int (E+2*c.g+1),int 1],.slice p2 G.length c2,[σ2]) (.inr ⟨by omega,rfl,p2,c2,σ2,rfl,hO2,rfl⟩) covZ selZ
  ·revert b; intro b13
   refine BQ (BX rfl hba rfl rfl rdZ rfl rfl ?_);rintro _ _ ⟨σ,⟨p',c',rfl,hO⟩,rfl⟩
   skip
   refine BQ (BX rfl (hse2 hO.at) rfl rfl rdZ rfl rfl ?_);rintro _ _ (⟨hlate,rfl,rfl⟩|⟨hok,p2,c2,σ2,rfl,hO2,rfl⟩)
   ·refine AL ?_
    refine Abl ?_;refine' CO rfl _ rfl rfl _ _
    rotate_left
    ·apply BA; exact rfl; exact rfl; exact takeZ; exact oneZ; exact rfl; exact rfl
    ·rintro _ _ ⟨_,rfl⟩ w hw; exact hw.sel Sel.nil
    rintro _ _ ⟨rfl,rfl⟩;refine Aaq ?_
    skip
    exact BF (b13,[int c.f,int c.t,int c.s,int c.e,int c.r,int c.g,int c.l,int se,str d,int e,int 0,int 0,.slice none 0 0,int 0,int 3],.slice none 0 0,[]) (.inl ⟨hlate,rfl,rfl,rfl⟩) covZ selZ
   ·refine AL ?_
    refine Abl ?_;refine' CO rfl _ rfl rfl _ _
    rotate_left
    ·apply BA; exact rfl; exact rfl; exact takeZ; exact oneZ; exact rfl; exact rfl
    ·rintro _ _ ⟨_,rfl⟩ w hw; exact hw.sel Sel.nil
    rintro _ _ ⟨rfl,rfl⟩;refine Aaq ?_
    skip
    exact BF (b13,[int c.f,int c.t,int c.s,int c.e,int c.r,int c.g,int c.l,int se,str d,int e,int E,int 1,.slice none 0 0,int (E+2*c.g+1),int 1],.slice p2 G.length c2,[σ2]) (.inr ⟨by omega,rfl,p2,c2,σ2,rfl,hO2,rfl⟩) covZ selZ
 rintro ⟨b13,vs,u,Hl⟩ hz
 dsimp only at hz ⊢
 rcases hz with ⟨hlate,rfl,rfl,rfl⟩|⟨hok,rfl,p2,c2,σ2,rfl,hO2,rfl⟩
 ·have hE:stE c d t0 e=16:=by rw [hst,if_pos hlate]
  refine AS (ρ:=sng b13 (.cells #[int c.f,int c.t,int c.s,int c.e,int c.r,int c.g,int c.l,int se,str d,int e,int 0,int 0,.slice none 0 0,int 0,int 3] 97 (0,0))) takeZ ?_
  have bx447_3:=rdB b13 97 [int c.f,int c.t,int c.s,int c.e,int c.r,int c.g,int c.l,int se,str d,int e,int 0,int 0,.slice none 0 0,int 0,int 3]
  have s14:=rdC bx447_3 14
  refine Abg ?_;refine CN ?_;refine Acy ?_
  focus ((refine BT (CM (out:=[int 0,int 0,int 0,int 0,int 0,int 0,int 0,int 0,str [],int 0,int 0,int 0,.slice none 0 0,int 0,int 0]) rfl rfl rfl rfl rfl) rfl rfl rfl ?_))
  refine AY ?_; rintro _ _ ⟨rfl,rfl⟩;refine Aaj ?_
  exact AK (resSEE (b1:=b10) (T:=97) (v1:=[int 0,int 0,int 0,int 0,int 0,int 0,int 0,int 0,str [],int 0,int 0,int 0,.slice none 0 0,int 0,int 0]) rfl rfl rfl rfl rfl rfl (cells_own memZ)) rsubZ selZ (.inl ⟨by rw [hE]; decide,by rw [hE],rfl⟩)
 ·have hE:stE c d t0 e=0:=by rw [hst,if_neg (by omega)]
  refine AS (ρ:=sng b13 (.cells #[int c.f,int c.t,int c.s,int c.e,int c.r,int c.g,int c.l,int se,str d,int e,int E,int 1,.slice none 0 0,int (E+2*c.g+1),int 1] 97 (0,0))) takeZ ?_
  have bx466_3:=rdB b13 97 [int c.f,int c.t,int c.s,int c.e,int c.r,int c.g,int c.l,int se,str d,int e,int E,int 1,.slice none 0 0,int (E+2*c.g+1),int 1]
  have s14:=rdC bx466_3 14
  have sw:=rdB b13 97 [int c.f,int c.t,int c.s,int c.e,int c.r,int c.g,int c.l,int se,str d,int e,int E,int 1,.slice none 0 0,int (E+2*c.g+1),int 1]
  refine Abg ?_;refine Ab8 ?_;refine Aau ?_;refine AB ?_;refine AY ?_; rintro _ _ ⟨rfl,rfl⟩;refine Aaj ?_;exact AK (H':=[σ2]) (resSEE (b1:=b10) (T:=97) (v1:=[int c.f,int c.t,int c.s,int c.e,int c.r,int c.g,int c.l,int se,str d,int e,int E,int 1,.slice none 0 0,int (E+2*c.g+1),int 1]) rfl rfl rfl rfl rfl rfl (cells_own memZ)) rsubZ selZ (.inr ⟨hE,⟨hc,hn1,hb1,hb2,hb3,hok⟩,p2,c2,σ2,rfl,hO2,rfl⟩)
abbrev RepPost (r:Value) (H':List PH) (c:Ct) (se e busy sr due st t0 sr':Int) (d:List UInt8) (K C:Iv) (p:Option Addr) (k:Nat) (er:List Value):Prop:=
 (sr'≠sr∧r=.tuple (Value.agg #[int c.f,int c.t,int c.s,int c.e,int c.r,int c.g,int c.l,int se,str d,int e,int busy,int sr,.slice p K.length k,int due,int st]::Value.slice none 0 0::er).toArray∧H'=[]) ∨
 (sr'=sr∧(unionI K C)=[((0:Int),(d.length:Int))]∧∃ p3 c3 σ,OwnS 77 2 (.slice p3 (unionI K C).length c3) (unionI K C).length ((unionI K C).flatMap encS) σ∧r=.tuple (Value.agg #[int c.f,int c.t,int c.s,int c.e,int c.r,int c.g,int c.l,int se,str d,int e,int busy,int sr,.slice p3 (unionI K C).length c3,int 0,int 2]::Value.slice none 0 0::er).toArray∧H'=[σ]) ∨
 (sr'=sr∧(unionI K C)≠[((0:Int),(d.length:Int))]∧e<(endG c.r t0 (bat (sr+1) (pcsAll (missI d.length (unionI K C)))))∧∃ p3 c3 σ,OwnS 77 2 (.slice p3 (unionI K C).length c3) (unionI K C).length ((unionI K C).flatMap encS) σ∧r=.tuple (Value.agg #[int c.f,int c.t,int c.s,int c.e,int c.r,int c.g,int c.l,int se,str d,int e,int busy,int sr,.slice p3 (unionI K C).length c3,int 0,int 3]::Value.slice none 0 0::er).toArray∧H'=[σ]) ∨
 (sr'=sr∧(unionI K C)≠[((0:Int),(d.length:Int))]∧(endG c.r t0 (bat (sr+1) (pcsAll (missI d.length (unionI K C)))))≤e∧∃ p3 c3 σ p4 c4 σ4,OwnS 77 2 (.slice p3 (unionI K C).length c3) (unionI K C).length ((unionI K C).flatMap encS) σ∧OwnS 56 9 (.slice p4 (timed c.r t0 (bat (sr+1) (pcsAll (missI d.length (unionI K C))))).length c4) (timed c.r t0 (bat (sr+1) (pcsAll (missI d.length (unionI K C))))).length ((timed c.r t0 (bat (sr+1) (pcsAll (missI d.length (unionI K C))))).flatMap (encO se d)) σ4∧r=.tuple (Value.agg #[int c.f,int c.t,int c.s,int c.e,int c.r,int c.g,int c.l,int se,str d,int e,int (endG c.r t0 (bat (sr+1) (pcsAll (missI d.length (unionI K C))))),int (sr+1),.slice p3 (unionI K C).length c3,int ((endG c.r t0 (bat (sr+1) (pcsAll (missI d.length (unionI K C)))))+2*c.g+1),int 1]::Value.slice p4 (bat (sr+1) (pcsAll (missI d.length (unionI K C)))).length c4::er).toArray∧H'=[σ4,σ])
theorem sndHand_spec:Eng.Spec Tryz.prog (fv 215) [] [] [] (fun r H'=>∃ b,r=.map (some b)∧H'=[sng b (mapV [(2,fv 244),(3,fv 245)])]):=by
 refine spec_in (cap:=[]) Tryz.func215 rfl rfl Tryz.ntmps215 rfl envZ (fun N β=>?_)
 refine Aal ?_;refine Aa ?_;refine BJ FU rfl rfl rfl ?_;rintro _ _ ⟨b,rfl,rfl⟩;refine B4 (D3 (k:=2) (v:=fv 244) rfl rfl rfl rfl rfl .here) rfl rfl ?_;rintro _ _ ⟨_,rfl⟩;refine B4 (D3 (k:=3) (v:=fv 245) rfl rfl rfl rfl rfl .here) rfl rfl ?_;rintro _ _ ⟨_,rfl⟩;refine AB ?_;refine Aaa ?_;exact AK (res1 rfl rfl) rsubZ selZ ⟨b,rfl,rfl⟩
theorem sndReport_spec {ρ ρ2:PH} {c:Ct} {se e busy sr due st t0 sr':Int} {d:List UInt8} {K C:Iv} {p p2:Option Addr} {k k2:Nat} (hv:SpAt ρ (.slice p K.length k) K) (hv2:SpAt ρ2 (.slice p2 C.length k2) C) (hc:chkCt c=0) (hse:0≤se∧se≤1099511627776) (hn1:1≤d.length) (hn:d.length≤990) (hb:c.s≤busy∧busy≤e∧e≤c.e) (hsr:1≤sr∧sr+1≤1099511627776) (hK:InI d.length K) (hC:InI d.length C) (ht:0≤t0∧t0≤4398046511104) :
  Eng.Spec Tryz.prog (fv 244) [.agg #[int c.f,int c.t,int c.s,int c.e,int c.r,int c.g,int c.l,int se,str d,int e,int busy,int sr,.slice p K.length k,int due,int st],int t0,.agg #[int 2,int se,int sr',int 0,int (d.length:Int),.bool false,str [],.slice p2 C.length k2]] [ρ,ρ2] [] (fun r H'=>RepPost r H' c se e busy sr due st t0 sr' d K C p k []):=by
 have hKl:=hK.len (by omega)
 have hCl:=hC.len (by omega)
 have hun:=snUnion_spec ρ ρ2 _ _ K C hv hv2 (hK.chk (by omega) (by omega)) (hC.chk (by omega) (by omega)) (by omega)
 have hU:=(unionI_in hK hC).1
 have hUl:=hU.len (by omega)
 have hco:=fun {σ:PH} {p3:Option Addr} {c3:Nat} (hv:SpAt σ (.slice p3 (unionI K C).length c3) (unionI K C))=>sndComplete_spec (c:=c) (se:=se) (e:=e) (busy:=busy) (sr:=sr) (due:=due) (st:=st) (d:=d) hv (by omega)
 have hMo:=(missI_ok hU (by omega)).1
 have hba:=fun {σ:PH} {p3:Option Addr} {c3:Nat} (hv:SpAt σ (.slice p3 (unionI K C).length c3) (unionI K C)) (hw:(unionI K C)≠[((0:Int),(d.length:Int))])=>sndBatch_spec (c:=c) (se:=se) (e:=e) (busy:=busy) (sr:=sr) (due:=due) (st:=st) hv hn1 hn hU hw hse (by omega)
 have hG:=bat_ok (sr:=sr+1) hMo (by omega) (by omega)
 have hbl:(bat (sr+1) (pcsAll (missI d.length (unionI K C)))).length≤1000000:=by rw [bat_len]; have:=pcsAll_len hMo (by omega); omega
 have hsd:=fun {σ:PH} {v:Value} {p3:Option Addr} {c3:Nat} {x:Sg} (hv:SlE (encG se d) 8 σ v (bat (sr+1) (pcsAll (missI d.length (unionI K C))))) (hx:(bat (sr+1) (pcsAll (missI d.length (unionI K C))))[(bat (sr+1) (pcsAll (missI d.length (unionI K C)))).length-1]?=some x)=>sndSend_spec (c:=c) (se:=se) (e:=e) (busy:=busy) (sr:=sr) (due:=due) (st:=st) (t0:=t0) (K:=(unionI K C)) (p:=p3) (k:=c3) hv hG hn hse hc hb.2.2 ht hbl hx
 have hlast:=fun hw=>bat_last (sr:=sr+1) (pcsAll_ne hMo.1 (fun x hx=>(hMo.at x hx).1) (missI_ne hU (by omega) hw))
 refine spec_in (cap:=[]) Tryz.func244 rfl rfl Tryz.ntmps244 rfl envZ (fun N β=>?_)
 refine Aa ?_;refine BJ (BL rfl) rfl rfl rfl ?_;rintro _ _ ⟨b3,rfl,rfl⟩;refine BJ (BL rfl) rfl rfl rfl ?_;rintro _ _ ⟨b5,rfl,rfl⟩;refine AS (ρ:=sng b5 _) takeZ ?_
 have cx:=rdB b5 54 [int 2,int se,int sr',int 0,int (d.length:Int),.bool false,str [],.slice p2 C.length k2]
 have cx0:=rdC cx 0
 have cx1:=rdC cx 1
 have cx2:=rdC cx 2
 have cx3:=rdC cx 3
 have cx4:=rdC cx 4
 have cx5:=rdC cx 5
 have cx6:=rdC cx 6
 have cx7:=rdC cx 7
 refine A4 ?_; rintro _ _ ⟨b,rfl,rfl⟩;refine Adz ?_
 revert b; intro b6
 refine B8 hun rfl rfl rdZ rfl rfl ?_;rintro _ σ ⟨p3,c3,rfl,hO⟩
 have hO:OwnS 77 2 (.slice p3 (unionI K C).length c3) (unionI K C).length ((unionI K C).flatMap encS) σ:=hO
 by_cases hs:sr'=sr
 rotate_left
 ·refine AB ?_
  refine Aax ?_;refine Abg ?_;refine Aad ?_;refine C8 ?_;refine Adj ?_;refine AV ?_;refine Aas ?_;refine Abk ?_;refine Aau ?_;refine AY ?_; rintro _ _ ⟨rfl,rfl⟩;refine Aaa ?_;exact AK (H':=[]) (resSE (b1:=b6) (T:=97) (v1:=[int c.f,int c.t,int c.s,int c.e,int c.r,int c.g,int c.l,int se,str d,int e,int busy,int sr,.slice p K.length k,int due,int st]) rfl rfl rfl rfl rfl (cells_own memZ)) rsubZ selZ (.inl ⟨hs,rfl,rfl⟩)
 refine Aa7 ?_;refine Abg ?_;refine Aad ?_;refine BM ?_;refine Ab3 ?_
 focus ((refine' BT _ rfl rfl rfl _; rotate_left; (apply B0; exact rfl; exact rfl)))
 refine BM ?_;refine AP ?_;refine Aao ?_;refine Adb ?_;refine Aab ?_;refine AG ?_;refine BC ?_; rintro _ _ ⟨rfl,rfl⟩;refine Aap ?_;refine Aau ?_
 have hco:=hco hO.at
 refine AT hco rfl rfl rdZ rfl rfl ?_;rintro _ rfl
 by_cases hw:(unionI K C)=[((0:Int),(d.length:Int))]
 ·rw [decide_eq_true hw]
  refine Acy ?_;refine AG ?_;refine BC ?_; rintro _ _ ⟨rfl,rfl⟩;refine AG ?_;refine BC ?_; rintro _ _ ⟨rfl,rfl⟩;refine AE ?_;refine Aau ?_;refine AY ?_; rintro _ _ ⟨rfl,rfl⟩;refine Aaa ?_;exact AK (H':=[σ]) (resSE (b1:=b6) (T:=97) (v1:=[int c.f,int c.t,int c.s,int c.e,int c.r,int c.g,int c.l,int se,str d,int e,int busy,int sr,.slice p3 (unionI K C).length c3,int 0,int 2]) rfl rfl rfl rfl rfl (cells_own memZ)) rsubZ selZ (.inr (.inl ⟨hs,hw,p3,c3,σ,hO,rfl,rfl⟩))
 rw [decide_eq_false hw];refine AS (ρ:=sng b3 (.cells #[int c.f,int c.t,int c.s,int c.e,int c.r,int c.g,int c.l,int se,str d,int e,int busy,int sr,.slice p3 (unionI K C).length c3,int due,int st] 97 (0,0))) takeZ ?_
 have sw:=rdB b3 97 [int c.f,int c.t,int c.s,int c.e,int c.r,int c.g,int c.l,int se,str d,int e,int busy,int sr,.slice p3 (unionI K C).length c3,int due,int st]
 obtain ⟨x,hx,hxs⟩:=hlast hw
 have hba:=hba hO.at hw
 refine Aag ?_;refine AD ?_
 refine BB (.q 0 (.q 1 (.q 2 (.l 3 .e (.l 4 .e (.q 5 (.q 6 (.l 7 .b (.q 8 .nil))))))))) [] rfl (by kernel_rfl) selZ ?_
 refine BP ?_;refine AL ?_;refine BP ?_;refine BQ (BX rfl hba rfl rfl rdZ rfl rfl ?_);rintro _ _ ⟨σ2,⟨p',c',rfl,hO2⟩,rfl⟩
 have hsd:=@hsd σ2 _ p3 c3 x hO2.at hx
 rw [hxs] at hsd
 skip
 refine BQ (BX rfl hsd rfl rfl rdZ rfl rfl ?_);rintro _ _ (⟨hlate,rfl,rfl⟩|⟨hok,p4,c4,σ4,rfl,hO4,rfl⟩)
 ·refine A7 ?_
  refine A7 ?_;refine BQ ?_;refine' CO rfl _ rfl rfl _ _
  rotate_left
  ·apply BA; exact rfl; exact rfl; exact takeZ; exact oneZ; exact rfl; exact rfl
  ·rintro _ _ ⟨_,rfl⟩ w hw; exact hw.sel Sel.nil
  rintro _ _ ⟨rfl,rfl⟩;refine Aaq ?_
  skip
  exact AK (H':=[σ]) (resSE (b1:=b6) (T:=97) (v1:=[int c.f,int c.t,int c.s,int c.e,int c.r,int c.g,int c.l,int se,str d,int e,int busy,int sr,.slice p3 (unionI K C).length c3,int 0,int 3]) rfl rfl rfl rfl rfl (cells_own memZ)) rsubZ selZ (.inr (.inr (.inl ⟨hs,hw,hlate,p3,c3,σ,hO,rfl,rfl⟩)))
 ·refine A7 ?_
  refine A7 ?_;refine BQ ?_;refine' CO rfl _ rfl rfl _ _
  rotate_left
  ·apply BA; exact rfl; exact rfl; exact takeZ; exact oneZ; exact rfl; exact rfl
  ·rintro _ _ ⟨_,rfl⟩ w hw; exact hw.sel Sel.nil
  rintro _ _ ⟨rfl,rfl⟩;refine Aaq ?_
  skip
  exact AK (H':=[σ4,σ]) (resSE (b1:=b6) (T:=97) (v1:=[int c.f,int c.t,int c.s,int c.e,int c.r,int c.g,int c.l,int se,str d,int e,int (endG c.r t0 (bat (sr+1) (pcsAll (missI d.length (unionI K C))))),int (sr+1),.slice p3 (unionI K C).length c3,int ((endG c.r t0 (bat (sr+1) (pcsAll (missI d.length (unionI K C)))))+2*c.g+1),int 1]) rfl rfl rfl rfl rfl (cells_own memZ)) rsubZ selZ (.inr (.inr (.inr ⟨hs,hw,hok,p3,c3,σ,p4,c4,σ4,hO,hO4,rfl,rfl⟩)))
theorem sndHear_spec {ρ ρ2:PH} {c:Ct} {se e busy sr due st t0 sr':Int} {d:List UInt8} {K C:Iv} {p p2:Option Addr} {k k2:Nat} (hv:SpAt ρ (.slice p K.length k) K) (hv2:SpAt ρ2 (.slice p2 C.length k2) C) (hc:chkCt c=0) (hse:0≤se∧se≤1099511627776) (hn1:1≤d.length) (hn:d.length≤990) (hb:c.s≤busy∧busy≤e∧e≤c.e) (hsr:1≤sr∧sr+1≤1099511627776) (hK:InI d.length K) (hC:InI d.length C) (hst:(st=1∧K≠[((0:Int),(d.length:Int))]∧due=busy+2*c.g+1)∨(st=2∧K=[((0:Int),(d.length:Int))]∧due=0)∨(st=3∧due=0)) (hs1':1≤sr'∧sr'≤1099511627776) (ht:busy≤t0∧t0≤2199023255552) :
  Eng.Spec Tryz.prog (fv 180) [.agg #[int c.f,int c.t,int c.s,int c.e,int c.r,int c.g,int c.l,int se,str d,int e,int busy,int sr,.slice p K.length k,int due,int st],int t0,.agg #[int 2,int se,int sr',int 0,int (d.length:Int),.bool false,str [],.slice p2 C.length k2]] [ρ,ρ2] [] (fun r H'=>(st=1∧RepPost r H' c se e busy sr due st t0 sr' d K C p k [int 0])∨(st≠1∧r=.tuple #[.agg #[int c.f,int c.t,int c.s,int c.e,int c.r,int c.g,int c.l,int se,str d,int e,int busy,int sr,.slice p K.length k,int due,int st],.slice none 0 0,int 0]∧H'=[])):=by
 have hcs:=chkCt_se hc
 have hck:=sndChk_spec hv hc hse hn1 hn hb ⟨hsr.1,by omega⟩ hK hst
 have hsg:=segChkR_spec (se:=se) hv2 hC hn1 (by omega) hs1'.1 hs1'.2 hse
 have hrp:=sndReport_spec (due:=due) (st:=st) (t0:=t0) (sr':=sr') hv hv2 hc hse hn1 hn hb hsr hK hC (by omega)
 obtain ⟨g1,g2⟩:=ht
 refine spec_in (cap:=[]) Tryz.func180 rfl rfl Tryz.ntmps180 rfl envZ (fun N β=>?_)
 refine Aa ?_;refine BJ (BL rfl) rfl rfl rfl ?_;rintro _ _ ⟨b3,rfl,rfl⟩;refine AS (ρ:=sng b3 _) takeZ ?_
 have cs:=rdB b3 97 [int c.f,int c.t,int c.s,int c.e,int c.r,int c.g,int c.l,int se,str d,int e,int busy,int sr,.slice p K.length k,int due,int st]
 have cs0:=rdC cs 0
 have cs1:=rdC cs 1
 have cs2:=rdC cs 2
 have cs3:=rdC cs 3
 have cs4:=rdC cs 4
 have cs5:=rdC cs 5
 have cs6:=rdC cs 6
 have cs7:=rdC cs 7
 have cs8:=rdC cs 8
 have cs9:=rdC cs 9
 have cs10:=rdC cs 10
 have cs11:=rdC cs 11
 have cs12:=rdC cs 12
 have cs13:=rdC cs 13
 have cs14:=rdC cs 14
 refine BJ (BL rfl) rfl rfl rfl ?_;rintro _ _ ⟨b5,rfl,rfl⟩;refine AS (ρ:=sng b5 _) takeZ ?_
 have cx:=rdB b5 54 [int 2,int se,int sr',int 0,int (d.length:Int),.bool false,str [],.slice p2 C.length k2]
 have cx0:=rdC cx 0
 have cx1:=rdC cx 1
 have cx2:=rdC cx 2
 have cx3:=rdC cx 3
 have cx4:=rdC cx 4
 have cx5:=rdC cx 5
 have cx6:=rdC cx 6
 have cx7:=rdC cx 7
 refine A4 ?_; rintro _ _ ⟨b,rfl,rfl⟩;refine Ac6 ?_
 revert b; intro b6
 refine AT hck rfl rfl rdZ rfl rfl ?_;rintro _ rfl;refine BM ?_;refine AB ?_;refine AQ ?_;refine AT hsg rfl rfl rdZ rfl rfl ?_;rintro _ rfl;refine Adb ?_;refine Aah ?_;refine Aad ?_
 focus ((refine AT (sndIn_spec (by omega) (by omega)) rfl rfl rdZ rfl rfl ?_; rintro _ rfl))
 refine Abr ?_;refine AD ?_
 refine BB (.q 1 (.q 2 (.l 0 .e (.q 3 (.q 4 (.q 5 (.q 6 (.q 7 (.q 8 .nil))))))))) [] rfl (by kernel_rfl) selZ ?_
 refine Aan ?_;refine BQ (DN rfl sndHand_spec rfl rfl rdZ rfl rfl ?_);rintro _ _ ⟨bm,rfl,rfl⟩;refine CJ rfl (E9 (l:=[(2,fv 244),(3,fv 245)]) (k:=2) (v:=fv 244) rfl rfl rfl rfl rfl (mapVAt_own memZ) rfl) rfl rfl rfl rfl ?_;refine AL ?_;refine A7 ?_;refine A7 ?_;refine Abo ?_
 by_cases hs1:st=1
 rotate_left
 ·refine AD ?_
  refine Aco ?_;refine Aak ?_;refine C8 ?_;refine AP ?_;refine Acf ?_;refine Abk ?_;refine Aau ?_;refine AY ?_; rintro _ _ ⟨rfl,rfl⟩;refine Aaj ?_;exact AK (H':=[]) (resSEE (b1:=b6) (T:=97) (v1:=[int c.f,int c.t,int c.s,int c.e,int c.r,int c.g,int c.l,int se,str d,int e,int busy,int sr,.slice p K.length k,int due,int st]) rfl rfl rfl rfl rfl rfl (cells_own memZ)) rsubZ selZ (.inr ⟨hs1,rfl,rfl⟩)
 refine Aah ?_;refine BE ?_;refine Aak ?_;refine BM ?_;refine Adl ?_;refine Adb ?_;refine Aab ?_;refine AQ ?_;refine AB ?_;refine AQ ?_;refine BI hrp rfl rfl Takes.nil rdZ rfl rfl ?_;rintro _ _ (⟨hs,rfl,rfl⟩|⟨hs,hw,p3,c3,σ,hO,rfl,rfl⟩|⟨hs,hw,hlate,p3,c3,σ,hO,rfl,rfl⟩|⟨hs,hw,hok,p3,c3,σ,p4,c4,σ4,hO,hO4,rfl,rfl⟩)
 ·refine AB ?_
  refine Aat ?_;refine A4 ?_; rintro _ _ ⟨b,rfl,rfl⟩;refine AY ?_; rintro _ _ ⟨rfl,rfl⟩;refine Ac5 ?_;refine AB ?_;refine AY ?_; rintro _ _ ⟨rfl,rfl⟩;refine Aaj ?_;exact AK (H':=[]) (resSEE (b1:=b6) (T:=97) (v1:=[int c.f,int c.t,int c.s,int c.e,int c.r,int c.g,int c.l,int se,str d,int e,int busy,int sr,.slice p K.length k,int due,int st]) rfl rfl rfl rfl rfl rfl (cells_own memZ)) rsubZ selZ (.inl ⟨hs1,.inl ⟨hs,rfl,rfl⟩⟩)
 ·refine AB ?_
  refine Aat ?_;refine A4 ?_; rintro _ _ ⟨b,rfl,rfl⟩;refine AY ?_; rintro _ _ ⟨rfl,rfl⟩;refine Ac5 ?_;refine AB ?_;refine AY ?_; rintro _ _ ⟨rfl,rfl⟩;refine Aaj ?_;exact AK (H':=[σ]) (resSEE (b1:=b6) (T:=97) (v1:=[int c.f,int c.t,int c.s,int c.e,int c.r,int c.g,int c.l,int se,str d,int e,int busy,int sr,.slice p3 (unionI K C).length c3,int 0,int 2]) rfl rfl rfl rfl rfl rfl (cells_own memZ)) rsubZ selZ (.inl ⟨hs1,.inr (.inl ⟨hs,hw,p3,c3,σ,hO,rfl,rfl⟩)⟩)
 ·refine AB ?_
  refine Aat ?_;refine A4 ?_; rintro _ _ ⟨b,rfl,rfl⟩;refine AY ?_; rintro _ _ ⟨rfl,rfl⟩;refine Ac5 ?_;refine AB ?_;refine AY ?_; rintro _ _ ⟨rfl,rfl⟩;refine Aaj ?_;exact AK (H':=[σ]) (resSEE (b1:=b6) (T:=97) (v1:=[int c.f,int c.t,int c.s,int c.e,int c.r,int c.g,int c.l,int se,str d,int e,int busy,int sr,.slice p3 (unionI K C).length c3,int 0,int 3]) rfl rfl rfl rfl rfl rfl (cells_own memZ)) rsubZ selZ (.inl ⟨hs1,.inr (.inr (.inl ⟨hs,hw,hlate,p3,c3,σ,hO,rfl,rfl⟩))⟩)
 ·refine AB ?_
  refine Aat ?_;refine A4 ?_; rintro _ _ ⟨b,rfl,rfl⟩;refine AY ?_; rintro _ _ ⟨rfl,rfl⟩;refine Ac5 ?_;refine AB ?_;refine AY ?_; rintro _ _ ⟨rfl,rfl⟩;refine Aaj ?_;exact AK (H':=[σ4,σ]) (resSEE (b1:=b6) (T:=97) (v1:=[int c.f,int c.t,int c.s,int c.e,int c.r,int c.g,int c.l,int se,str d,int e,int (endG c.r t0 (bat (sr+1) (pcsAll (missI d.length (unionI K C))))),int (sr+1),.slice p3 (unionI K C).length c3,int ((endG c.r t0 (bat (sr+1) (pcsAll (missI d.length (unionI K C)))))+2*c.g+1),int 1]) rfl rfl rfl rfl rfl rfl (cells_own memZ)) rsubZ selZ (.inl ⟨hs1,.inr (.inr (.inr ⟨hs,hw,hok,p3,c3,σ,p4,c4,σ4,hO,hO4,rfl,rfl⟩))⟩)
theorem sndWait_spec {ρ:PH} {c:Ct} {se e busy sr due t0:Int} {d:List UInt8} {K:Iv} {p:Option Addr} {k:Nat} (hv:SpAt ρ (.slice p K.length k) K) (hc:chkCt c=0) (hse:0≤se∧se≤1099511627776) (hn1:1≤d.length) (hn:d.length≤990) (hb:c.s≤busy∧busy≤e∧e≤c.e) (hsr:1≤sr∧sr+1≤1099511627776) (hK:InI d.length K) (hw:K≠[((0:Int),(d.length:Int))]) (hdue:due=busy+2*c.g+1) (ht:due≤t0∧t0≤2199023255552) :
  Eng.Spec Tryz.prog (fv 181) [.agg #[int c.f,int c.t,int c.s,int c.e,int c.r,int c.g,int c.l,int se,str d,int e,int busy,int sr,.slice p K.length k,int due,int 1],int t0] [ρ] [] (fun r H'=>(e<(endG c.r t0 ((bat (sr+1) (pcsAll (missI d.length K))).drop ((bat (sr+1) (pcsAll (missI d.length K))).length-1)))∧r=.tuple #[.agg #[int c.f,int c.t,int c.s,int c.e,int c.r,int c.g,int c.l,int se,str d,int e,int busy,int sr,.slice p K.length k,int 0,int 3],.slice none 0 0,int 0]∧H'=[]) ∨
   ((endG c.r t0 ((bat (sr+1) (pcsAll (missI d.length K))).drop ((bat (sr+1) (pcsAll (missI d.length K))).length-1)))≤e∧∃ p4 c4 σ4,r=.tuple #[.agg #[int c.f,int c.t,int c.s,int c.e,int c.r,int c.g,int c.l,int se,str d,int e,int (endG c.r t0 ((bat (sr+1) (pcsAll (missI d.length K))).drop ((bat (sr+1) (pcsAll (missI d.length K))).length-1))),int (sr+1),.slice p K.length k,int ((endG c.r t0 ((bat (sr+1) (pcsAll (missI d.length K))).drop ((bat (sr+1) (pcsAll (missI d.length K))).length-1)))+2*c.g+1),int 1],.slice p4 ((bat (sr+1) (pcsAll (missI d.length K))).drop ((bat (sr+1) (pcsAll (missI d.length K))).length-1)).length c4,int 0]∧OwnS 56 9 (.slice p4 (timed c.r t0 ((bat (sr+1) (pcsAll (missI d.length K))).drop ((bat (sr+1) (pcsAll (missI d.length K))).length-1))).length c4) (timed c.r t0 ((bat (sr+1) (pcsAll (missI d.length K))).drop ((bat (sr+1) (pcsAll (missI d.length K))).length-1))).length ((timed c.r t0 ((bat (sr+1) (pcsAll (missI d.length K))).drop ((bat (sr+1) (pcsAll (missI d.length K))).length-1))).flatMap (encO se d)) σ4∧H'=[σ4])):=by
 have hcs:=chkCt_se hc
 have hcg:=chkCt_rg hc
 have hck:=sndChk_spec (due:=due) (st:=1) hv hc hse hn1 hn hb ⟨hsr.1,by omega⟩ hK (.inl ⟨rfl,hw,hdue⟩)
 have hba:=sndBatch_spec (c:=c) (se:=se) (e:=e) (busy:=busy) (sr:=sr) (due:=due) (st:=1) hv hn1 hn hK hw hse (by omega)
 have hMo:=(missI_ok hK (by omega)).1
 have hG0:=bat_ok (sr:=sr+1) hMo (by omega) (by omega)
 obtain ⟨x,hx,hxs⟩:=bat_last (sr:=sr+1) (pcsAll_ne hMo.1 (fun x hx=>(hMo.at x hx).1) (missI_ne hK (by omega) hw))
 have hbl:(bat (sr+1) (pcsAll (missI d.length K))).length≤1000000:=by rw [bat_len]; have:=pcsAll_len hMo (by omega); omega
 have hG:∀ x∈((bat (sr+1) (pcsAll (missI d.length K))).drop ((bat (sr+1) (pcsAll (missI d.length K))).length-1)),okG d.length x:=fun x hx=>hG0 x (List.mem_of_mem_drop hx)
 have hpos:0<(bat (sr+1) (pcsAll (missI d.length K))).length:=by
  rcases Nat.eq_zero_or_pos (bat (sr+1) (pcsAll (missI d.length K))).length with h|h
  ·rw [List.eq_nil_of_length_eq_zero h] at hx; simp at hx
  ·exact h
 have hxd:((bat (sr+1) (pcsAll (missI d.length K))).drop ((bat (sr+1) (pcsAll (missI d.length K))).length-1))[((bat (sr+1) (pcsAll (missI d.length K))).drop ((bat (sr+1) (pcsAll (missI d.length K))).length-1)).length-1]?=some x:=by
  rw [List.getElem?_drop,List.length_drop]
  rw [show (bat (sr+1) (pcsAll (missI d.length K))).length-1+((bat (sr+1) (pcsAll (missI d.length K))).length-((bat (sr+1) (pcsAll (missI d.length K))).length-1)-1)=(bat (sr+1) (pcsAll (missI d.length K))).length-1 from by omega]
  exact hx
 have hdl:((bat (sr+1) (pcsAll (missI d.length K))).drop ((bat (sr+1) (pcsAll (missI d.length K))).length-1)).length≤1000000:=by rw [List.length_drop]; omega
 have hsd0:=fun {σ:PH} {v:Value} (hv:SlE (encG se d) 8 σ v ((bat (sr+1) (pcsAll (missI d.length K))).drop ((bat (sr+1) (pcsAll (missI d.length K))).length-1)))=>sndSend_spec (c:=c) (se:=se) (e:=e) (busy:=busy) (sr:=sr) (due:=due) (st:=1) (t0:=t0) (K:=K) (p:=p) (k:=k) hv hG hn hse hc hb.2.2 (by omega) hdl hxd
 rw [hxs] at hsd0
 have hdn:((bat (sr+1) (pcsAll (missI d.length K))).drop ((bat (sr+1) (pcsAll (missI d.length K))).length-1)).length=(bat (sr+1) (pcsAll (missI d.length K))).length-((bat (sr+1) (pcsAll (missI d.length K))).length-1):=List.length_drop
 generalize hGG0:(bat (sr+1) (pcsAll (missI d.length K)))=G0 at *
 generalize hGG:G0.drop (G0.length-1)=G at *
 generalize endG c.r t0 G=E at *
 refine spec_in (cap:=[]) Tryz.func181 rfl rfl Tryz.ntmps181 rfl envZ (fun N β=>?_)
 refine Aa ?_;refine BJ (BL rfl) rfl rfl rfl ?_;rintro _ _ ⟨b2,rfl,rfl⟩;refine AS (ρ:=sng b2 _) takeZ ?_
 have cs:=rdB b2 97 [int c.f,int c.t,int c.s,int c.e,int c.r,int c.g,int c.l,int se,str d,int e,int busy,int sr,.slice p K.length k,int due,int 1]
 have cs0:=rdC cs 0
 have cs1:=rdC cs 1
 have cs2:=rdC cs 2
 have cs3:=rdC cs 3
 have cs4:=rdC cs 4
 have cs5:=rdC cs 5
 have cs6:=rdC cs 6
 have cs7:=rdC cs 7
 have cs8:=rdC cs 8
 have cs9:=rdC cs 9
 have cs10:=rdC cs 10
 have cs11:=rdC cs 11
 have cs12:=rdC cs 12
 have cs13:=rdC cs 13
 have cs14:=rdC cs 14
 refine A4 ?_; rintro _ _ ⟨b,rfl,rfl⟩;refine Ac6 ?_
 revert b; intro b4
 refine AT hck rfl rfl rdZ rfl rfl ?_;rintro _ rfl;refine Aba ?_;refine Abg ?_;refine Add ?_;refine Aad ?_
 focus ((refine AT (sndIn_spec (by omega) (by omega)) rfl rfl rdZ rfl rfl ?_; rintro _ rfl))
 refine Abr ?_;refine Aau ?_;refine B8 hba rfl rfl rdZ rfl rfl ?_;rintro _ σ1 ⟨p1,c1,rfl,hO1⟩
 obtain ⟨_,_,e0,hcap⟩:=hO1.formC
 simp only [Value.slice.injEq] at e0
 obtain ⟨rfl,_,rfl⟩:=e0
 have hsl:=slE_lo (encG_len se d) hO1.at hcap (i:=G0.length-1) (by omega) rfl
 rw [hGG] at hsl
 have hsd:=hsd0 hsl
 refine Ad ?_
 refine DG (X:=Nat × List Value × Value × List PH) [4] (fun z=>(e<E∧z.2.1=[int c.f,int c.t,int c.s,int c.e,int c.r,int c.g,int c.l,int se,str d,int e,int busy,int sr,.slice p K.length k,int 0,int 3]∧z.2.2.1=.slice none 0 0∧z.2.2.2=[])∨(E≤e∧z.2.1=[int c.f,int c.t,int c.s,int c.e,int c.r,int c.g,int c.l,int se,str d,int e,int E,int (sr+1),.slice p K.length k,int (E+2*c.g+1),int 1]∧∃ p4 c4 σ4,z.2.2.1=.slice p4 G.length c4∧OwnS 56 9 (.slice p4 (timed c.r t0 G).length c4) (timed c.r t0 G).length ((timed c.r t0 G).flatMap (encO se d)) σ4∧z.2.2.2=[σ4])) (fun z=>[(8,.pointer (some ⟨z.1,0,none⟩)),(9,z.2.2.1)]) (fun z=>sng z.1 (.cells z.2.1.toArray 97 (0,0))::sng b4 (.cells #[int 0,int 0,int 0,int 0,int 0,int 0,int 0,int 0,str [],int 0,int 0,int 0,.slice none 0 0,int 0,int 0] 97 (0,0))::z.2.2.2) pickZ ?_ ?_
 ·refine BB (.q 0 (.q 1 (.q 2 (.q 3 (.q 4 (.q 5 (.q 6 (.q 7 (.l2 8 .e (.q 9 (.q 10 (.p 11 (.l 12 .e (.l 13 .b (.q 14 .nil)))))) 12 .e (.l 8 .e (.q 9 (.q 10 (.p 11 (.l 13 .b (.q 14 .nil))))))))))))))) [] rfl (by kernel_rfl) Sel.nil ?_
  repeat' (first
   | (refine AL ?_)
   | (refine C1 ?_)
   | (refine CF ?_)
   | (refine BP ?_)
   | (refine F6 ?_)
   | (refine CZ ?_)
   | (refine C4 ?_ ?_)
   | (refine CC ?_; rintro _ _ ⟨b,rfl,rfl⟩)
   | fail)
  ·refine BX rfl hsd rfl rfl rdZ rfl rfl ?_
   rintro _ _ (⟨hlate,rfl,rfl⟩|⟨hok,p4,c4,σ4,rfl,hO4,rfl⟩)
   ·refine AL ?_
    refine Aaz ?_;refine B5 ?_; rintro _ _ ⟨b,rfl,rfl⟩
    revert b; intro b8
    skip
    refine BQ ?_;refine' CO rfl _ rfl rfl _ _
    rotate_left
    ·apply BA; exact rfl; exact rfl; exact takeZ; exact oneZ; exact rfl; exact rfl
    ·rintro _ _ ⟨_,rfl⟩ w hw; exact hw.sel Sel.nil
    rintro _ _ ⟨rfl,rfl⟩;refine Aaq ?_
    skip
    exact BF (b8,[int c.f,int c.t,int c.s,int c.e,int c.r,int c.g,int c.l,int se,str d,int e,int busy,int sr,.slice p K.length k,int 0,int 3],.slice none 0 0,[]) (.inl ⟨hlate,rfl,rfl,rfl⟩) covZ selZ
   ·refine AL ?_
    refine Aaz ?_;refine B5 ?_; rintro _ _ ⟨b,rfl,rfl⟩
    revert b; intro b8
    skip
    refine BQ ?_;refine' CO rfl _ rfl rfl _ _
    rotate_left
    ·apply BA; exact rfl; exact rfl; exact takeZ; exact oneZ; exact rfl; exact rfl
    ·rintro _ _ ⟨_,rfl⟩ w hw; exact hw.sel Sel.nil
    rintro _ _ ⟨rfl,rfl⟩;refine Aaq ?_
    skip
    exact BF (b8,[int c.f,int c.t,int c.s,int c.e,int c.r,int c.g,int c.l,int se,str d,int e,int E,int (sr+1),.slice p K.length k,int (E+2*c.g+1),int 1],.slice p4 G.length c4,[σ4]) (.inr ⟨hok,rfl,p4,c4,σ4,rfl,hO4,rfl⟩) covZ selZ
  ·revert b; intro b8
   refine BQ (BX rfl hsd rfl rfl rdZ rfl rfl ?_);rintro _ _ (⟨hlate,rfl,rfl⟩|⟨hok,p4,c4,σ4,rfl,hO4,rfl⟩)
   ·refine AL ?_
    refine Abl ?_;refine' CO rfl _ rfl rfl _ _
    rotate_left
    ·apply BA; exact rfl; exact rfl; exact takeZ; exact oneZ; exact rfl; exact rfl
    ·rintro _ _ ⟨_,rfl⟩ w hw; exact hw.sel Sel.nil
    rintro _ _ ⟨rfl,rfl⟩;refine Aaq ?_
    skip
    exact BF (b8,[int c.f,int c.t,int c.s,int c.e,int c.r,int c.g,int c.l,int se,str d,int e,int busy,int sr,.slice p K.length k,int 0,int 3],.slice none 0 0,[]) (.inl ⟨hlate,rfl,rfl,rfl⟩) covZ selZ
   ·refine AL ?_
    refine Abl ?_;refine' CO rfl _ rfl rfl _ _
    rotate_left
    ·apply BA; exact rfl; exact rfl; exact takeZ; exact oneZ; exact rfl; exact rfl
    ·rintro _ _ ⟨_,rfl⟩ w hw; exact hw.sel Sel.nil
    rintro _ _ ⟨rfl,rfl⟩;refine Aaq ?_
    skip
    exact BF (b8,[int c.f,int c.t,int c.s,int c.e,int c.r,int c.g,int c.l,int se,str d,int e,int E,int (sr+1),.slice p K.length k,int (E+2*c.g+1),int 1],.slice p4 G.length c4,[σ4]) (.inr ⟨hok,rfl,p4,c4,σ4,rfl,hO4,rfl⟩) covZ selZ
 rintro ⟨b8,vs,u,Hl⟩ hz
 dsimp only at hz ⊢
 rcases hz with ⟨hlate,rfl,rfl,rfl⟩|⟨hok,rfl,p4,c4,σ4,rfl,hO4,rfl⟩
 ·refine AD ?_
  refine AA ?_;refine AQ ?_;refine AB ?_;refine AY ?_; rintro _ _ ⟨rfl,rfl⟩;refine Aaj ?_;exact AK (H':=[]) (resSEE (b1:=b4) (T:=97) (v1:=[int c.f,int c.t,int c.s,int c.e,int c.r,int c.g,int c.l,int se,str d,int e,int busy,int sr,.slice p K.length k,int 0,int 3]) rfl rfl rfl rfl rfl rfl (cells_own memZ)) rsubZ selZ (.inl ⟨hlate,rfl,rfl⟩)
 ·refine AD ?_
  refine AA ?_;refine AQ ?_;refine AB ?_;refine AY ?_; rintro _ _ ⟨rfl,rfl⟩;refine Aaj ?_;exact AK (H':=[σ4]) (resSEE (b1:=b4) (T:=97) (v1:=[int c.f,int c.t,int c.s,int c.e,int c.r,int c.g,int c.l,int se,str d,int e,int E,int (sr+1),.slice p K.length k,int (E+2*c.g+1),int 1]) rfl rfl rfl rfl rfl rfl (cells_own memZ)) rsubZ selZ (.inr ⟨hok,p4,c4,σ4,rfl,hO4,rfl⟩)
theorem lnkDelay_spec {n:Int} (h:1≤n∧n≤1048576):Ans Tryz.prog (fv 92) [int n] [] (fun r=>r=.bool true):=by
 obtain ⟨h1,h2⟩:=h
 refine spec_in (cap:=[]) Tryz.func92 rfl rfl Tryz.ntmps92 rfl envZ (fun N β=>?_)
 refine Ac0 ?_;refine C9 ?_;refine Aao ?_;refine EE ?_;refine Abm ?_;exact A9 ⟨rfl,rfl⟩
theorem lnkSplit_spec {n b:Int} (hn:-9223372036854775808≤n∧n≤9223372036854775807) (hb0:1≤b∧b≤1048576):Ans Tryz.prog (fv 271) [int n,int b] [] (fun r=>r=.tuple #[int (n / b),int (n % b)]):=by
 obtain ⟨e1,e2⟩:=split_eq (m:=n) (n:=b) (by omega)
 have hb:In64 (n.tdiv b):=by have:=tdiv_bd (n:=b) (by omega) hn; exact ⟨by omega,by omega⟩
 have hb2:=tdiv_bd (n:=b) (by omega) hn
 have hm:=Int.tmod_lt_of_pos n (show 0<b by omega)
 have h2:=Int.emod_nonneg n (show b≠0 by omega)
 have h3:=Int.mul_tdiv_add_tmod n b
 have hq0:n.tmod b<0 → -9223372036854775808<n.tdiv b:=fun h=>by
  rcases Int.lt_or_le (-9223372036854775808) (n.tdiv b) with g|g
  ·exact g
  ·have g2:n.tdiv b ≤ -9223372036854775808:=g
   have h7:=Int.mul_le_mul_of_nonneg_left (show n.tdiv b≤0 by omega) (show 0≤b-1 by omega)
   rw [Int.sub_mul,Int.one_mul,Int.mul_zero] at h7;omega
 obtain ⟨h4,h5⟩:=hb0
 refine spec_in (cap:=[]) Tryz.func271 rfl rfl Tryz.ntmps271 rfl envZ (fun N β=>?_)
 by_cases hneg:n.tmod b<0
 ·rw [if_pos hneg] at e1 e2
  rw [← e1,← e2]
  have hq1:=hq0 hneg
  have hlo:-1048576≤n.tmod b:=by omega
  refine Acn ?_;refine Aar ?_
  focus ((refine' BT _ rfl rfl rfl _; rotate_left; (apply FP; exact rfl; exact rfl; omega)))
  refine Aa8 ?_;refine B7 ?_;refine Aai ?_;refine Acp ?_;refine CD ?_;refine Aca ?_
  focus ((refine' BT _ rfl rfl rfl _; rotate_left; (apply GL; exact rfl; exact rfl; omega; exact hb)))
  refine Aa8 ?_;refine AB ?_
  focus ((refine' BT _ rfl rfl rfl _; rotate_left; (apply FP; exact rfl; exact rfl; omega)))
  refine B7 ?_;refine Aai ?_;refine Ac7 ?_;refine DM ?_;refine Aca ?_;refine Aaj ?_;exact AK (res2 rfl rfl rfl) rsubZ selZ ⟨rfl,rfl⟩
 ·rw [if_neg hneg] at e1 e2
  rw [← e1,← e2];refine Acn ?_;refine Aar ?_
  focus ((refine' BT _ rfl rfl rfl _; rotate_left; (apply FP; exact rfl; exact rfl; omega)))
  refine Aa8 ?_;refine BK ?_;refine Aag ?_;refine Aar ?_
  focus ((refine' BT _ rfl rfl rfl _; rotate_left; (apply GL; exact rfl; exact rfl; omega; exact hb)))
  refine Aa8 ?_;refine AB ?_
  focus ((refine' BT _ rfl rfl rfl _; rotate_left; (apply FP; exact rfl; exact rfl; omega)))
  refine BK ?_;refine Aag ?_;refine Aar ?_;refine Aaj ?_;exact AK (res2 rfl rfl rfl) rsubZ selZ ⟨rfl,rfl⟩
theorem lnkNew_spec {n:Int} (h:1≤n∧n≤1048576):Ans Tryz.prog (fv 50) [int n] [] (fun r=>r=.tuple #[.agg #[int n,.slice none 0 0,int 0,int 0],int 0]):=by
 have hd:=lnkDelay_spec h
 refine spec_in (cap:=[]) Tryz.func50 rfl rfl Tryz.ntmps50 rfl envZ (fun N β=>?_)
 refine Aa ?_;refine A4 ?_; rintro _ _ ⟨b,rfl,rfl⟩;refine Aa8 ?_;refine AT hd rfl rfl rdZ rfl rfl ?_;rintro _ rfl;refine Abr ?_;refine Aab ?_;refine B6 ?_;refine AY ?_; rintro _ _ ⟨rfl,rfl⟩;refine Aaa ?_;exact AK (resSE (v1:=[int n,.slice none 0 0,int 0,int 0]) rfl rfl rfl rfl rfl (cells_own memZ)) rsubZ selZ ⟨rfl,rfl⟩
theorem lnkFate1_spec {rng m:Int} (h:0≤rng∧rng≤1048576) (hm:0≤m∧m≤1048576):Makes Tryz.prog (fv 286) [int rng,int m] [] (fun r σ=>∃ p c,r=.slice p 1 c∧OwnS 3 1 (.slice p 1 c) 1 [int rng] σ):=by
 obtain ⟨h1,h2⟩:=h
 obtain ⟨h3,h4⟩:=hm
 refine spec_in (cap:=[]) Tryz.func286 rfl rfl Tryz.ntmps286 rfl envZ (fun N β=>?_)
 refine Ac0 ?_;refine BN ?_; rintro _ _ ⟨b,rfl,rfl⟩;refine Aaa ?_
 exact AK (res1 rfl rfl) rsubZ selZ ⟨_,⟨_,_,rfl,ownS_sng (cs:=[int rng]) rfl (by decide)⟩,rfl⟩
theorem lnkFate2_spec {rng m:Int} (h:0≤rng∧rng≤1048576) (hm:0≤m∧m≤1048576):Makes Tryz.prog (fv 287) [int rng,int m] [] (fun r σ=>∃ p c,r=.slice p 2 c∧OwnS 3 1 (.slice p 2 c) 2 [int rng,int (rng+1+m)] σ):=by
 obtain ⟨h1,h2⟩:=h
 obtain ⟨h3,h4⟩:=hm
 refine spec_in (cap:=[]) Tryz.func287 rfl rfl Tryz.ntmps287 rfl envZ (fun N β=>?_)
 refine Acu ?_;refine CD ?_;refine AB ?_;refine CD ?_;refine BN ?_; rintro _ _ ⟨b,rfl,rfl⟩;refine Aaa ?_
 exact AK (res1 rfl rfl) rsubZ selZ ⟨_,⟨_,_,rfl,ownS_sng (cs:=[int rng,int (rng+1+m)]) rfl (by decide)⟩,rfl⟩
theorem lnkFate3_spec {rng m:Int} (h:0≤rng∧rng≤1048576) (hm:0≤m∧m≤1048576):Makes Tryz.prog (fv 288) [int rng,int m] [] (fun r σ=>∃ p c,r=.slice p 1 c∧OwnS 3 1 (.slice p 1 c) 1 [int (rng+1+m)] σ):=by
 obtain ⟨h1,h2⟩:=h
 obtain ⟨h3,h4⟩:=hm
 refine spec_in (cap:=[]) Tryz.func288 rfl rfl Tryz.ntmps288 rfl envZ (fun N β=>?_)
 refine Ac0 ?_;refine CD ?_;refine AB ?_;refine CD ?_;refine BN ?_; rintro _ _ ⟨b,rfl,rfl⟩;refine Aaa ?_
 exact AK (res1 rfl rfl) rsubZ selZ ⟨_,⟨_,_,rfl,ownS_sng (cs:=[int (rng+1+m)]) rfl (by decide)⟩,rfl⟩
theorem lnkFate4_spec {rng m:Int} (h:0≤rng∧rng≤1048576) (hm:0≤m∧m≤1048576):Makes Tryz.prog (fv 289) [int rng,int m] [] (fun r σ=>∃ p c,r=.slice p 0 c∧OwnS 3 1 (.slice p 0 c) 0 [] σ):=by
 refine spec_in (cap:=[]) Tryz.func289 rfl rfl Tryz.ntmps289 rfl envZ (fun N β=>?_)
 refine CG ?_;refine Aal ?_;refine Aal ?_;exact AK (res1 rfl rfl) rsubZ selZ ⟨emp,⟨none,0,rfl,OwnS.nil _ _⟩,rfl⟩
theorem lnkFates_spec:Ans Tryz.prog (fv 272) [] [] (fun r=>r=.agg #[fv 286,fv 286,fv 286,fv 286,fv 287,fv 287,fv 288,fv 289]):=by
 refine spec_in (cap:=[]) Tryz.func272 rfl rfl Tryz.ntmps272 rfl envZ (fun N β=>?_)
 refine Aa ?_;refine A4 ?_; rintro _ _ ⟨b,rfl,rfl⟩;refine Acm ?_;refine B6 ?_;refine A4 ?_; rintro _ _ ⟨b,rfl,rfl⟩;refine AY ?_; rintro _ _ ⟨rfl,rfl⟩;refine Acm ?_;refine B6 ?_;refine A4 ?_; rintro _ _ ⟨b,rfl,rfl⟩;refine AY ?_; rintro _ _ ⟨rfl,rfl⟩;refine Acm ?_;refine B6 ?_;refine A4 ?_; rintro _ _ ⟨b,rfl,rfl⟩;refine AY ?_; rintro _ _ ⟨rfl,rfl⟩;refine Acm ?_;refine B6 ?_;refine A4 ?_; rintro _ _ ⟨b,rfl,rfl⟩;refine AY ?_; rintro _ _ ⟨rfl,rfl⟩;refine AE ?_;refine Aau ?_;refine AQ ?_;refine AQ ?_;refine AQ ?_;refine AQ ?_;refine AQ ?_;refine AQ ?_;refine AQ ?_
 focus ((refine BT (DY (s:=1) (out:=[fv 286,fv 286,fv 286,fv 286,fv 287,fv 287,fv 288,fv 289]) rfl rfl rfl rfl (by kernel_rfl)) rfl rfl rfl ?_))
 refine AY ?_; rintro _ _ ⟨rfl,rfl⟩;refine AE ?_;exact AK (resS1 (v1:=[fv 286,fv 286,fv 286,fv 286,fv 287,fv 287,fv 288,fv 289]) rfl rfl rfl rfl (cells_own memZ)) rsubZ selZ ⟨rfl,rfl⟩
theorem lnkFate_spec {n rng:Int} (hn:-9223372036854775808≤n∧n≤9223372036854775807) (hr:1≤rng∧rng≤1048576):Makes Tryz.prog (fv 234) [int n,int rng] [] (fun r σ=>∃ p c,r=.tuple #[.slice p (fateM n rng).length c,int 0]∧OwnS 3 1 (.slice p (fateM n rng).length c) (fateM n rng).length ((fateM n rng).map int) σ):=by
 have hd:=lnkDelay_spec hr
 have hsp:=lnkSplit_spec (n:=n) (b:=8) hn (by omega)
 have hsp2:=lnkSplit_spec (n:=n / 8) (b:=rng) (by omega) hr
 have h2:=Int.emod_nonneg (n / 8) (show rng≠0 by omega)
 have h3:=Int.emod_lt_of_pos (n / 8) (show 0<rng by omega)
 refine spec_in (cap:=[]) Tryz.func234 rfl rfl Tryz.ntmps234 rfl envZ (fun N β=>?_)
 refine Acn ?_;refine Aah ?_;refine AT hd rfl rfl rdZ rfl rfl ?_;rintro _ rfl;refine Abr ?_;refine Aab ?_
 have hk:n % 8=0∨n % 8=1∨n % 8=2∨n % 8=3∨n % 8=4∨n % 8=5∨n % 8=6∨n % 8=7:=by omega
 rcases hk with hk|hk|hk|hk|hk|hk|hk|hk
 ·have hF:fateM n rng=[rng]:=by unfold fateM; simp [hk]
  rw [hF];rw [hk] at hsp;refine AT hsp rfl rfl rdZ rfl rfl ?_;rintro _ rfl;refine Ad1 ?_;refine AT hsp2 rfl rfl rdZ rfl rfl ?_;rintro _ rfl;refine Aa7 ?_;refine Aa ?_;refine AT lnkFates_spec rfl rfl rdZ rfl rfl ?_;rintro _ rfl;refine A4 ?_; rintro _ _ ⟨b,rfl,rfl⟩;refine AY ?_; rintro _ _ ⟨rfl,rfl⟩;refine Abt ?_
  revert b; intro b10
  refine AS (ρ:=sng b10 _) takeZ ?_
  have bx351_3:=rdB b10 379 [fv 286,fv 286,fv 286,fv 286,fv 287,fv 287,fv 288,fv 289]
  have g0:=rdC bx351_3 0
  focus ((refine BT (CS (i:=0) (m:=0) (s:=1) rfl rfl rfl rfl (by decide) rfl) rfl rfl rfl ?_))
  refine Aad ?_;refine Aao ?_
  refine B8 (lnkFate1_spec (rng:=rng) (m:=n / 8 % rng) (by omega) (by omega)) rfl rfl rdZ rfl rfl ?_
  rintro _ σ ⟨p,c,rfl,hO⟩;refine Aaj ?_;exact AK (res2 rfl rfl rfl) rsubZ selZ ⟨σ,⟨p,c,rfl,hO⟩,rfl⟩
 ·have hF:fateM n rng=[rng]:=by unfold fateM; simp [hk]
  rw [hF];rw [hk] at hsp;refine AT hsp rfl rfl rdZ rfl rfl ?_;rintro _ rfl;refine Ad1 ?_;refine AT hsp2 rfl rfl rdZ rfl rfl ?_;rintro _ rfl;refine Aa7 ?_;refine Aa ?_;refine AT lnkFates_spec rfl rfl rdZ rfl rfl ?_;rintro _ rfl;refine A4 ?_; rintro _ _ ⟨b,rfl,rfl⟩;refine AY ?_; rintro _ _ ⟨rfl,rfl⟩;refine Abt ?_
  revert b; intro b10
  refine AS (ρ:=sng b10 _) takeZ ?_
  have bx398_3:=rdB b10 379 [fv 286,fv 286,fv 286,fv 286,fv 287,fv 287,fv 288,fv 289]
  have g0:=rdC bx398_3 1
  focus ((refine BT (CS (i:=1) (m:=1) (s:=1) rfl rfl rfl rfl (by decide) rfl) rfl rfl rfl ?_))
  refine Ac8 ?_;refine Aao ?_
  refine B8 (lnkFate1_spec (rng:=rng) (m:=n / 8 % rng) (by omega) (by omega)) rfl rfl rdZ rfl rfl ?_
  rintro _ σ ⟨p,c,rfl,hO⟩;refine Aaj ?_;exact AK (res2 rfl rfl rfl) rsubZ selZ ⟨σ,⟨p,c,rfl,hO⟩,rfl⟩
 ·have hF:fateM n rng=[rng]:=by unfold fateM; simp [hk]
  rw [hF];rw [hk] at hsp;refine AT hsp rfl rfl rdZ rfl rfl ?_;rintro _ rfl;refine Ad1 ?_;refine AT hsp2 rfl rfl rdZ rfl rfl ?_;rintro _ rfl;refine Aa7 ?_;refine Aa ?_;refine AT lnkFates_spec rfl rfl rdZ rfl rfl ?_;rintro _ rfl;refine A4 ?_; rintro _ _ ⟨b,rfl,rfl⟩;refine AY ?_; rintro _ _ ⟨rfl,rfl⟩;refine Abt ?_
  revert b; intro b10
  refine AS (ρ:=sng b10 _) takeZ ?_
  have bx445_3:=rdB b10 379 [fv 286,fv 286,fv 286,fv 286,fv 287,fv 287,fv 288,fv 289]
  have g0:=rdC bx445_3 2
  focus ((refine BT (CS (i:=2) (m:=2) (s:=1) rfl rfl rfl rfl (by decide) rfl) rfl rfl rfl ?_))
  refine Ac8 ?_;refine Aao ?_
  refine B8 (lnkFate1_spec (rng:=rng) (m:=n / 8 % rng) (by omega) (by omega)) rfl rfl rdZ rfl rfl ?_
  rintro _ σ ⟨p,c,rfl,hO⟩;refine Aaj ?_;exact AK (res2 rfl rfl rfl) rsubZ selZ ⟨σ,⟨p,c,rfl,hO⟩,rfl⟩
 ·have hF:fateM n rng=[rng]:=by unfold fateM; simp [hk]
  rw [hF];rw [hk] at hsp;refine AT hsp rfl rfl rdZ rfl rfl ?_;rintro _ rfl;refine Ad1 ?_;refine AT hsp2 rfl rfl rdZ rfl rfl ?_;rintro _ rfl;refine Aa7 ?_;refine Aa ?_;refine AT lnkFates_spec rfl rfl rdZ rfl rfl ?_;rintro _ rfl;refine A4 ?_; rintro _ _ ⟨b,rfl,rfl⟩;refine AY ?_; rintro _ _ ⟨rfl,rfl⟩;refine Abt ?_
  revert b; intro b10
  refine AS (ρ:=sng b10 _) takeZ ?_
  have bx492_3:=rdB b10 379 [fv 286,fv 286,fv 286,fv 286,fv 287,fv 287,fv 288,fv 289]
  have g0:=rdC bx492_3 3
  focus ((refine BT (CS (i:=3) (m:=3) (s:=1) rfl rfl rfl rfl (by decide) rfl) rfl rfl rfl ?_))
  refine Ac8 ?_;refine Aao ?_
  refine B8 (lnkFate1_spec (rng:=rng) (m:=n / 8 % rng) (by omega) (by omega)) rfl rfl rdZ rfl rfl ?_
  rintro _ σ ⟨p,c,rfl,hO⟩;refine Aaj ?_;exact AK (res2 rfl rfl rfl) rsubZ selZ ⟨σ,⟨p,c,rfl,hO⟩,rfl⟩
 ·have hF:fateM n rng=[rng,(rng+1+n / 8 % rng)]:=by unfold fateM; simp [hk]
  rw [hF];rw [hk] at hsp;refine AT hsp rfl rfl rdZ rfl rfl ?_;rintro _ rfl;refine Ad1 ?_;refine AT hsp2 rfl rfl rdZ rfl rfl ?_;rintro _ rfl;refine Aa7 ?_;refine Aa ?_;refine AT lnkFates_spec rfl rfl rdZ rfl rfl ?_;rintro _ rfl;refine A4 ?_; rintro _ _ ⟨b,rfl,rfl⟩;refine AY ?_; rintro _ _ ⟨rfl,rfl⟩;refine Abt ?_
  revert b; intro b10
  refine AS (ρ:=sng b10 _) takeZ ?_
  have bx539_3:=rdB b10 379 [fv 286,fv 286,fv 286,fv 286,fv 287,fv 287,fv 288,fv 289]
  have g0:=rdC bx539_3 4
  focus ((refine BT (CS (i:=4) (m:=4) (s:=1) rfl rfl rfl rfl (by decide) rfl) rfl rfl rfl ?_))
  refine Ac8 ?_;refine Aao ?_
  refine B8 (lnkFate2_spec (rng:=rng) (m:=n / 8 % rng) (by omega) (by omega)) rfl rfl rdZ rfl rfl ?_
  rintro _ σ ⟨p,c,rfl,hO⟩;refine Aaj ?_;exact AK (res2 rfl rfl rfl) rsubZ selZ ⟨σ,⟨p,c,rfl,hO⟩,rfl⟩
 ·have hF:fateM n rng=[rng,(rng+1+n / 8 % rng)]:=by unfold fateM; simp [hk]
  rw [hF];rw [hk] at hsp;refine AT hsp rfl rfl rdZ rfl rfl ?_;rintro _ rfl;refine Ad1 ?_;refine AT hsp2 rfl rfl rdZ rfl rfl ?_;rintro _ rfl;refine Aa7 ?_;refine Aa ?_;refine AT lnkFates_spec rfl rfl rdZ rfl rfl ?_;rintro _ rfl;refine A4 ?_; rintro _ _ ⟨b,rfl,rfl⟩;refine AY ?_; rintro _ _ ⟨rfl,rfl⟩;refine Abt ?_
  revert b; intro b10
  refine AS (ρ:=sng b10 _) takeZ ?_
  have bx586_3:=rdB b10 379 [fv 286,fv 286,fv 286,fv 286,fv 287,fv 287,fv 288,fv 289]
  have g0:=rdC bx586_3 5
  focus ((refine BT (CS (i:=5) (m:=5) (s:=1) rfl rfl rfl rfl (by decide) rfl) rfl rfl rfl ?_))
  refine Ac8 ?_;refine Aao ?_
  refine B8 (lnkFate2_spec (rng:=rng) (m:=n / 8 % rng) (by omega) (by omega)) rfl rfl rdZ rfl rfl ?_
  rintro _ σ ⟨p,c,rfl,hO⟩;refine Aaj ?_;exact AK (res2 rfl rfl rfl) rsubZ selZ ⟨σ,⟨p,c,rfl,hO⟩,rfl⟩
 ·have hF:fateM n rng=[(rng+1+n / 8 % rng)]:=by unfold fateM; simp [hk]
  rw [hF];rw [hk] at hsp;refine AT hsp rfl rfl rdZ rfl rfl ?_;rintro _ rfl;refine Ad1 ?_;refine AT hsp2 rfl rfl rdZ rfl rfl ?_;rintro _ rfl;refine Aa7 ?_;refine Aa ?_;refine AT lnkFates_spec rfl rfl rdZ rfl rfl ?_;rintro _ rfl;refine A4 ?_; rintro _ _ ⟨b,rfl,rfl⟩;refine AY ?_; rintro _ _ ⟨rfl,rfl⟩;refine Abt ?_
  revert b; intro b10
  refine AS (ρ:=sng b10 _) takeZ ?_
  have bx633_3:=rdB b10 379 [fv 286,fv 286,fv 286,fv 286,fv 287,fv 287,fv 288,fv 289]
  have g0:=rdC bx633_3 6
  focus ((refine BT (CS (i:=6) (m:=6) (s:=1) rfl rfl rfl rfl (by decide) rfl) rfl rfl rfl ?_))
  refine Ac8 ?_;refine Aao ?_
  refine B8 (lnkFate3_spec (rng:=rng) (m:=n / 8 % rng) (by omega) (by omega)) rfl rfl rdZ rfl rfl ?_
  rintro _ σ ⟨p,c,rfl,hO⟩;refine Aaj ?_;exact AK (res2 rfl rfl rfl) rsubZ selZ ⟨σ,⟨p,c,rfl,hO⟩,rfl⟩
 ·have hF:fateM n rng=[]:=by unfold fateM; simp [hk]
  rw [hF];rw [hk] at hsp;refine AT hsp rfl rfl rdZ rfl rfl ?_;rintro _ rfl;refine Ad1 ?_;refine AT hsp2 rfl rfl rdZ rfl rfl ?_;rintro _ rfl;refine Aa7 ?_;refine Aa ?_;refine AT lnkFates_spec rfl rfl rdZ rfl rfl ?_;rintro _ rfl;refine A4 ?_; rintro _ _ ⟨b,rfl,rfl⟩;refine AY ?_; rintro _ _ ⟨rfl,rfl⟩;refine Abt ?_
  revert b; intro b10
  refine AS (ρ:=sng b10 _) takeZ ?_
  have bx680_3:=rdB b10 379 [fv 286,fv 286,fv 286,fv 286,fv 287,fv 287,fv 288,fv 289]
  have g0:=rdC bx680_3 7
  focus ((refine BT (CS (i:=7) (m:=7) (s:=1) rfl rfl rfl rfl (by decide) rfl) rfl rfl rfl ?_))
  refine Ac8 ?_;refine Aao ?_
  refine B8 (lnkFate4_spec (rng:=rng) (m:=n / 8 % rng) (by omega) (by omega)) rfl rfl rdZ rfl rfl ?_
  rintro _ σ ⟨p,c,rfl,hO⟩;refine Aaj ?_;exact AK (res2 rfl rfl rfl) rsubZ selZ ⟨σ,⟨p,c,rfl,hO⟩,rfl⟩
theorem indexTrS_spec (ρ:PH) (Rs:List PH) (v fn:Value) (l:List (Int × Int)) (p:(Int × Int)→Bool) (hv:SlE encS 2 ρ v l) (hl:l.length≤9223372036854775807) (hfn:∀ (i:Nat) (x:(Int × Int)),l[i]?=some x→Ans Tryz.prog fn [.agg (encS x).toArray] Rs (fun r=>r=.bool (p x))) :
  Ans Tryz.prog (fv 44) [v,fn] (ρ::Rs) (fun r=>(∃ (i:Nat) (x:(Int × Int)),l[i]?=some x∧p x=true∧(∀ (j:Nat) (y:(Int × Int)),j<i→l[j]?=some y→p y=false)∧r=int i)∨((∀ x∈l,p x=false)∧r=int (-1))):=by
 obtain ⟨q,c,rfl,hr⟩:=hv.val encS_len
 refine spec_in (cap:=[]) Tryz.func44 rfl rfl Tryz.ntmps44 rfl envZ (fun N β=>?_)
 refine Ab6 ?_;refine Aby ?_
 refine BU [0,1,7] (0:Nat) (fun k=>k≤l.length∧∀ (i:Nat) (x:(Int × Int)),i<k→l[i]?=some x→p x=false) (fun k=>[(8,int k)]) (fun _=>[]) (fun k=>l.length-k) pickZ ⟨by omega,fun i x h=>by omega⟩ covZ selZ ?_
 rintro k ⟨hk,hI⟩
 by_cases hlt:k<l.length
 ·have hx:=List.getElem?_eq_getElem hlt
  obtain ⟨b1,o1,rfl,hrd⟩:=hr k _ hx
  have hrd2:RdN ρ b1 (o1+k*2) (encS l[k]):=hrd
  have hf:=hfn k _ hx
  refine Abn ?_;refine Abi ?_;refine Adq ?_;refine Ab4 ?_
  refine AT hf rfl rfl (fun τ hτ=>.inl (by simp [hτ])) rfl rfl ?_
  rintro _ rfl
  cases hp:p l[k] with
  | true =>
   refine Aai ?_;refine Abi ?_;exact AK (res1 rfl rfl) rsubZ selZ ⟨rfl,.inl ⟨k,l[k],hx,hp,hI,rfl⟩⟩
  | false =>
   refine Aag ?_;refine Abf ?_
   refine BG (k+1) ⟨by omega,fun i x hi hix=>?_⟩ (by omega) covZ selZ
   by_cases e:i=k
   ·subst e; rw [hx] at hix; injection hix with hix; rw [← hix]; exact hp
   ·exact hI i x (by omega) hix
 ·refine AD ?_
  refine AA ?_;refine Abw ?_;refine Aal ?_
  refine AK (res1 rfl rfl) rsubZ selZ ⟨rfl,.inr ⟨fun x hx=>?_,rfl⟩⟩
  obtain ⟨i,hi,rfl⟩:=List.getElem_of_mem hx
  exact hI i _ (by omega) (List.getElem?_eq_getElem hi)
theorem contTrS_spec (ρ:PH) (Rs:List PH) (v fn:Value) (l:List (Int × Int)) (p:(Int × Int)→Bool) (hv:SlE encS 2 ρ v l) (hl:l.length≤9223372036854775807) (hfn:∀ (i:Nat) (x:(Int × Int)),l[i]?=some x→Ans Tryz.prog fn [.agg (encS x).toArray] Rs (fun r=>r=.bool (p x))) :
  Ans Tryz.prog (fv 22) [v,fn] (ρ::Rs) (fun r=>r=.bool (l.any p)):=by
 have hix:=indexTrS_spec ρ Rs v fn l p hv hl hfn
 obtain ⟨q,c,rfl,hr⟩:=hv.val encS_len
 refine spec_in (cap:=[]) Tryz.func22 rfl rfl Tryz.ntmps22 rfl envZ (fun N β=>?_)
 refine Acu ?_
 refine AT hix rfl rfl (fun τ hτ=>.inl (List.mem_cons_of_mem _ hτ)) rfl rfl ?_
 rintro _ (⟨i,x,hi,hp,_,rfl⟩|⟨hall2,rfl⟩)
 ·have hfl:l.any p=true:=List.any_eq_true.2 ⟨x,List.mem_of_getElem? hi,hp⟩
  refine C9 ?_;refine Aaa ?_
  exact AK (res1 rfl rfl) rsubZ selZ ⟨rfl,by rw [hfl]⟩
 ·have hfl:l.any p=false:=List.any_eq_false.2 (fun x hx=>by rw [hall2 x hx]; simp)
  refine CP ?_;refine Aaa ?_
  exact AK (res1 rfl rfl) rsubZ selZ ⟨rfl,by rw [hfl]⟩
theorem trHas1_spec (bt:Nat) (t:Int) (x:Int × Int):Ans Tryz.prog (.func (.func 270) #[] #[.pointer (some ⟨bt,0,none⟩)]) [.agg (encS x).toArray] [sng bt (.cells #[int t] 3 (0,0))] (fun r=>r=.bool (inSp t x)):=by
 have bx801_3:=rdB bt 3 [int t]
 have f0:=rdC bx801_3 0
 refine spec_in (cap:=[.pointer (some ⟨bt,0,none⟩)]) Tryz.func270 rfl rfl Tryz.ntmps270 rfl envZ (fun N β=>?_)
 refine Aa ?_;refine BJ (BL rfl) rfl rfl rfl ?_;rintro _ _ ⟨b2,rfl,rfl⟩;refine AS (ρ:=sng b2 _) takeZ ?_
 have cx:=rdB b2 77 [int x.1,int x.2]
 have cx0:=rdC cx 0
 have cx1:=rdC cx 1
 by_cases h1:x.1≤t
 ·by_cases h2:t<x.2
  ·rw [show inSp t x=true from inSp_iff.2 ⟨h1,h2⟩]
   refine Abu ?_;refine AF ?_;refine EE ?_;refine AB ?_;refine AF ?_;refine Aad ?_;refine B7 ?_;refine Abm ?_;exact A9 ⟨rfl,rfl⟩
  ·rw [show inSp t x=false by cases h:inSp t x with|false=>rfl|true=>exact absurd (inSp_iff.1 h).2 h2]
   refine Abu ?_;refine AF ?_;refine EE ?_;refine AB ?_;refine AF ?_;refine Aad ?_;refine BK ?_;refine Abm ?_;exact A9 ⟨rfl,rfl⟩
 ·rw [show inSp t x=false by cases h:inSp t x with|false=>rfl|true=>exact absurd (inSp_iff.1 h).1 h1]
  refine Abu ?_;refine AF ?_;refine FH ?_;refine Aa6 ?_;refine Ac2 ?_;exact A9 ⟨rfl,rfl⟩
theorem trHas_spec (ρ:PH) (v:Value) (l:Iv) (t:Int) (hv:SpAt ρ v l) (hl:l.length≤9223372036854775807) (hc0:chkI l=0) :
  Ans Tryz.prog (fv 233) [v,int t] [ρ] (fun r=>r=.bool (memI l t)):=by
 have hc:=ivCheck_spec ρ v l hv hl
 rw [hc0] at hc
 have hcon:=fun bt=>contTrS_spec ρ [sng bt (.cells #[int t] 3 (0,0))] v (.func (.func 270) #[] #[.pointer (some ⟨bt,0,none⟩)]) l (inSp t) hv hl (fun _ x _=>trHas1_spec bt t x)
 obtain ⟨q,c,rfl,_⟩:=hv.val encS_len
 refine spec_in (cap:=[]) Tryz.func233 rfl rfl Tryz.ntmps233 rfl envZ (fun N β=>?_)
 refine Aa ?_;refine EB ?_; rintro _ _ ⟨b,rfl,rfl⟩;refine Abv ?_
 revert b; intro bt
 refine AS (ρ:=sng bt _) takeZ ?_;refine AT hc rfl rfl rdZ rfl rfl ?_;rintro _ rfl;refine CN ?_;refine Aao ?_;refine BZ ?_;refine AT (hcon bt) rfl rfl rdZ rfl rfl ?_;rintro _ rfl;refine Abm ?_;exact A9 ⟨rfl,rfl⟩
end Go.Proofs.YtekcielcagdcmaaGreatDoor
