/- Texts of this proof, one after the other; no conditions. -/
import Derived.Test.YtahbngakckbenaaGreatDoorWB5
import Derived.Test.YtahbngakckbenaaGreatDoorWB2
import Derived.Test.YtahbngakckbenaaGreatDoorWB4
import Derived.Test.YtahbngakckbenaaGreatDoorWB0
import Derived.Test.YtahbngakckbenaaGreatDoorWB1
import Derived.Test.YtahbngakckbenaaGreatDoorWB3
set_option linter.all false
/- A sender hears a report. -/
namespace Go.Proofs.YtahbngakckbenaaGreatDoor
open Go.Eng Go.Step
set_option maxRecDepth 100000
set_option maxHeartbeats 64000000
abbrev RepPost (r:Value) (H':List PH) (c:Ct) (se e busy sr due st t0 sr':Int) (d:List UInt8) (K C:Iv) (p:Option Addr) (k:Nat) (er:List Value):Prop:=
 (sr'≠sr∧r=.tuple (Value.agg #[int c.f,int c.t,int c.s,int c.e,int c.r,int c.g,int c.l,int se,str d,int e,int busy,int sr,.slice p K.length k,int due,int st]::Value.slice none 0 0::er).toArray∧H'=[]) ∨
 (sr'=sr∧(unionI K C)=[((0:Int),(d.length:Int))]∧∃ p3 c3 σ,OwnS 49 2 (.slice p3 (unionI K C).length c3) (unionI K C).length ((unionI K C).flatMap encS) σ∧r=.tuple (Value.agg #[int c.f,int c.t,int c.s,int c.e,int c.r,int c.g,int c.l,int se,str d,int e,int busy,int sr,.slice p3 (unionI K C).length c3,int 0,int 2]::Value.slice none 0 0::er).toArray∧H'=[σ]) ∨
 (sr'=sr∧(unionI K C)≠[((0:Int),(d.length:Int))]∧e<(endG c.r t0 (bat (sr+1) (pcsAll (missI d.length (unionI K C)))))∧∃ p3 c3 σ,OwnS 49 2 (.slice p3 (unionI K C).length c3) (unionI K C).length ((unionI K C).flatMap encS) σ∧r=.tuple (Value.agg #[int c.f,int c.t,int c.s,int c.e,int c.r,int c.g,int c.l,int se,str d,int e,int busy,int sr,.slice p3 (unionI K C).length c3,int 0,int 3]::Value.slice none 0 0::er).toArray∧H'=[σ]) ∨
 (sr'=sr∧(unionI K C)≠[((0:Int),(d.length:Int))]∧(endG c.r t0 (bat (sr+1) (pcsAll (missI d.length (unionI K C)))))≤e∧∃ p3 c3 σ p4 c4 σ4,OwnS 49 2 (.slice p3 (unionI K C).length c3) (unionI K C).length ((unionI K C).flatMap encS) σ∧OwnS 39 9 (.slice p4 (timed c.r t0 (bat (sr+1) (pcsAll (missI d.length (unionI K C))))).length c4) (timed c.r t0 (bat (sr+1) (pcsAll (missI d.length (unionI K C))))).length ((timed c.r t0 (bat (sr+1) (pcsAll (missI d.length (unionI K C))))).flatMap (encO se d)) σ4∧r=.tuple (Value.agg #[int c.f,int c.t,int c.s,int c.e,int c.r,int c.g,int c.l,int se,str d,int e,int (endG c.r t0 (bat (sr+1) (pcsAll (missI d.length (unionI K C))))),int (sr+1),.slice p3 (unionI K C).length c3,int ((endG c.r t0 (bat (sr+1) (pcsAll (missI d.length (unionI K C)))))+2*c.g+1),int 1]::Value.slice p4 (bat (sr+1) (pcsAll (missI d.length (unionI K C)))).length c4::er).toArray∧H'=[σ4,σ])
theorem sndHand_spec:Eng.Spec Tryz.prog (fv 213) [] [] [] (fun r H'=>∃ b,r=.map (some b)∧H'=[sng b (mapV [(2,fv 245),(3,fv 246)])]):=by
 refine spec_in (cap:=[]) Tryz.func213 rfl rfl Tryz.ntmps213 rfl envZ (fun N β=>?_)
 refine Aan ?_;refine Aa ?_;refine BK FE rfl rfl rfl ?_;rintro _ _ ⟨b,rfl,rfl⟩;refine BR (DR (k:=2) (v:=fv 245) rfl rfl rfl rfl rfl .here) rfl rfl ?_;rintro _ _ ⟨_,rfl⟩;refine BR (DR (k:=3) (v:=fv 246) rfl rfl rfl rfl rfl .here) rfl rfl ?_;rintro _ _ ⟨_,rfl⟩;refine AB ?_;refine Aaa ?_;exact AK (res1 rfl rfl) rsubZ selZ ⟨b,rfl,rfl⟩
theorem sndReport_spec {ρ ρ2:PH} {c:Ct} {se e busy sr due st t0 sr':Int} {d:List UInt8} {K C:Iv} {p p2:Option Addr} {k k2:Nat} (hv:SpAt ρ (.slice p K.length k) K) (hv2:SpAt ρ2 (.slice p2 C.length k2) C) (hc:chkCt c=0) (hse:0≤se∧se≤1099511627776) (hn1:1≤d.length) (hn:d.length≤990) (hb:c.s≤busy∧busy≤e∧e≤c.e) (hsr:1≤sr∧sr+1≤1099511627776) (hK:InI d.length K) (hC:InI d.length C) (ht:0≤t0∧t0≤4398046511104) :
  Eng.Spec Tryz.prog (fv 245) [.agg #[int c.f,int c.t,int c.s,int c.e,int c.r,int c.g,int c.l,int se,str d,int e,int busy,int sr,.slice p K.length k,int due,int st],int t0,.agg #[int 2,int se,int sr',int 0,int (d.length:Int),.bool false,str [],.slice p2 C.length k2]] [ρ,ρ2] [] (fun r H'=>RepPost r H' c se e busy sr due st t0 sr' d K C p k []):=by
 have hKl:=hK.len (by omega)
 have hCl:=hC.len (by omega)
 have hun:=snUnion_spec ρ ρ2 _ _ K C hv hv2 (hK.chk (by omega) (by omega)) (hC.chk (by omega) (by omega)) (by omega)
 have hU:=(unionI_in hK hC).1
 have hUl:=hU.len (by omega)
 have hco:=fun {σ:PH} {p3:Option Addr} {c3:Nat} (hv:SpAt σ (.slice p3 (unionI K C).length c3) (unionI K C))=>sndComplete_spec (c:=c) (se:=se) (e:=e) (busy:=busy) (sr:=sr) (due:=due) (st:=st) (d:=d) hv (by omega)
 have hMo:=(missI_ok hU (by omega)).1
 have hba:=fun {σ:PH} {p3:Option Addr} {c3:Nat} (hv:SpAt σ (.slice p3 (unionI K C).length c3) (unionI K C)) (hw:(unionI K C)≠[((0:Int),(d.length:Int))])=>sndBatch_spec (c:=c) (se:=se) (e:=e) (busy:=busy) (sr:=sr) (due:=due) (st:=st) hv hn1 hn hU hw hse (by omega)
 have hG:=bat_ok (sr:=sr+1) hMo (by omega) (by omega)
 have hbl:(bat (sr+1) (pcsAll (missI d.length (unionI K C)))).length≤1000000:=by rw [bat_len]; have:=pcsAll_len hMo (by omega); omega
 have hsd:=fun {σ:PH} {v:Value} {p3:Option Addr} {c3:Nat} {x:Sg} (hv:SlE (encG se d) 8 σ v (bat (sr+1) (pcsAll (missI d.length (unionI K C))))) (hx:(bat (sr+1) (pcsAll (missI d.length (unionI K C))))[(bat (sr+1) (pcsAll (missI d.length (unionI K C)))).length-1]?=some x)=>sndSend_spec (c:=c) (se:=se) (e:=e) (busy:=busy) (sr:=sr) (due:=due) (st:=st) (t0:=t0) (K:=(unionI K C)) (p:=p3) (k:=c3) hv hG hn hse hc hb.2.2 ht hbl hx
 have hlast:=fun hw=>bat_last (sr:=sr+1) (pcsAll_ne hMo.1 (fun x hx=>(hMo.at x hx).1) (missI_ne hU (by omega) hw))
 refine spec_in (cap:=[]) Tryz.func245 rfl rfl Tryz.ntmps245 rfl envZ (fun N β=>?_)
 refine Aa ?_;refine BK (BM rfl) rfl rfl rfl ?_;rintro _ _ ⟨b3,rfl,rfl⟩;refine BK (BM rfl) rfl rfl rfl ?_;rintro _ _ ⟨b5,rfl,rfl⟩;refine AZ (ρ:=sng b5 _) takeZ ?_
 have cx:=rdB b5 37 [int 2,int se,int sr',int 0,int (d.length:Int),.bool false,str [],.slice p2 C.length k2]
 have cx0:=rdC cx 0
 have cx1:=rdC cx 1
 have cx2:=rdC cx 2
 have cx3:=rdC cx 3
 have cx4:=rdC cx 4
 have cx5:=rdC cx 5
 have cx6:=rdC cx 6
 have cx7:=rdC cx 7
 refine A6 ?_; rintro _ _ ⟨b,rfl,rfl⟩;refine Ab4 ?_;refine Aae ?_
 revert b; intro b6
 refine B9 hun rfl rfl rdZ rfl rfl ?_;rintro _ σ ⟨p3,c3,rfl,hO⟩
 have hO:OwnS 49 2 (.slice p3 (unionI K C).length c3) (unionI K C).length ((unionI K C).flatMap encS) σ:=hO
 by_cases hs:sr'=sr
 rotate_left
 ·refine AB ?_
  refine Adb ?_;refine Aba ?_;refine Aae ?_;refine DB ?_;refine Acn ?_;refine A4 ?_;refine Abf ?_;refine Abr ?_;refine Aaz ?_;refine AX ?_; rintro _ _ ⟨rfl,rfl⟩;refine Aaa ?_;exact AK (H':=[]) (resSE (b1:=b6) (T:=83) (v1:=[int c.f,int c.t,int c.s,int c.e,int c.r,int c.g,int c.l,int se,str d,int e,int busy,int sr,.slice p K.length k,int due,int st]) rfl rfl rfl rfl rfl (cells_own memZ)) rsubZ selZ (.inl ⟨hs,rfl,rfl⟩)
 refine Aa1 ?_;refine Aba ?_;refine Aae ?_;refine BJ ?_;refine Aap ?_;refine Aae ?_
 focus ((refine' BQ _ rfl rfl rfl _; rotate_left; (apply B4; exact rfl; exact rfl)))
 refine BJ ?_;refine AR ?_;refine Aak ?_;refine Ac2 ?_;refine Aab ?_;refine AF ?_;refine BA ?_; rintro _ _ ⟨rfl,rfl⟩;refine Aat ?_;refine Aaz ?_
 have hco:=hco hO.at
 refine AW hco rfl rfl rdZ rfl rfl ?_;rintro _ rfl
 by_cases hw:(unionI K C)=[((0:Int),(d.length:Int))]
 ·rw [decide_eq_true hw]
  refine Acr ?_;refine AF ?_;refine BA ?_; rintro _ _ ⟨rfl,rfl⟩;refine AF ?_;refine BA ?_; rintro _ _ ⟨rfl,rfl⟩;refine AE ?_;refine Aaz ?_;refine AX ?_; rintro _ _ ⟨rfl,rfl⟩;refine Aaa ?_;exact AK (H':=[σ]) (resSE (b1:=b6) (T:=83) (v1:=[int c.f,int c.t,int c.s,int c.e,int c.r,int c.g,int c.l,int se,str d,int e,int busy,int sr,.slice p3 (unionI K C).length c3,int 0,int 2]) rfl rfl rfl rfl rfl (cells_own memZ)) rsubZ selZ (.inr (.inl ⟨hs,hw,p3,c3,σ,hO,rfl,rfl⟩))
 rw [decide_eq_false hw];refine AZ (ρ:=sng b3 (.cells #[int c.f,int c.t,int c.s,int c.e,int c.r,int c.g,int c.l,int se,str d,int e,int busy,int sr,.slice p3 (unionI K C).length c3,int due,int st] 83 (0,0))) takeZ ?_
 have sw:=rdB b3 83 [int c.f,int c.t,int c.s,int c.e,int c.r,int c.g,int c.l,int se,str d,int e,int busy,int sr,.slice p3 (unionI K C).length c3,int due,int st]
 obtain ⟨x,hx,hxs⟩:=hlast hw
 have hba:=hba hO.at hw
 refine Aag ?_;refine AD ?_
 refine BD (.q 0 (.q 1 (.q 2 (.l 3 .e (.l 4 .e (.q 5 (.q 6 (.l 7 .b (.q 8 .nil))))))))) [] rfl (by kernel_rfl) selZ ?_
 refine B8 ?_;refine AJ ?_;refine B8 ?_;refine BL (BO rfl hba rfl rfl rdZ rfl rfl ?_);rintro _ _ ⟨σ2,⟨p',c',rfl,hO2⟩,rfl⟩
 have hsd:=@hsd σ2 _ p3 c3 x hO2.at hx
 rw [hxs] at hsd
 skip
 refine BL (BO rfl hsd rfl rfl rdZ rfl rfl ?_);rintro _ _ (⟨hlate,rfl,rfl⟩|⟨hok,p4,c4,σ4,rfl,hO4,rfl⟩)
 ·refine A2 ?_
  refine A2 ?_;refine BL ?_;refine' CG rfl _ rfl rfl _ _
  rotate_left
  ·apply A9; exact rfl; exact rfl; exact takeZ; exact oneZ; exact rfl; exact rfl
  ·rintro _ _ ⟨_,rfl⟩ w hw; exact hw.sel Sel.nil
  rintro _ _ ⟨rfl,rfl⟩;refine Aam ?_
  skip
  exact AK (H':=[σ]) (resSE (b1:=b6) (T:=83) (v1:=[int c.f,int c.t,int c.s,int c.e,int c.r,int c.g,int c.l,int se,str d,int e,int busy,int sr,.slice p3 (unionI K C).length c3,int 0,int 3]) rfl rfl rfl rfl rfl (cells_own memZ)) rsubZ selZ (.inr (.inr (.inl ⟨hs,hw,hlate,p3,c3,σ,hO,rfl,rfl⟩)))
 ·refine A2 ?_
  refine A2 ?_;refine BL ?_;refine' CG rfl _ rfl rfl _ _
  rotate_left
  ·apply A9; exact rfl; exact rfl; exact takeZ; exact oneZ; exact rfl; exact rfl
  ·rintro _ _ ⟨_,rfl⟩ w hw; exact hw.sel Sel.nil
  rintro _ _ ⟨rfl,rfl⟩;refine Aam ?_
  skip
  exact AK (H':=[σ4,σ]) (resSE (b1:=b6) (T:=83) (v1:=[int c.f,int c.t,int c.s,int c.e,int c.r,int c.g,int c.l,int se,str d,int e,int (endG c.r t0 (bat (sr+1) (pcsAll (missI d.length (unionI K C))))),int (sr+1),.slice p3 (unionI K C).length c3,int ((endG c.r t0 (bat (sr+1) (pcsAll (missI d.length (unionI K C)))))+2*c.g+1),int 1]) rfl rfl rfl rfl rfl (cells_own memZ)) rsubZ selZ (.inr (.inr (.inr ⟨hs,hw,hok,p3,c3,σ,p4,c4,σ4,hO,hO4,rfl,rfl⟩)))
theorem sndHear_spec {ρ ρ2:PH} {c:Ct} {se e busy sr due st t0 sr':Int} {d:List UInt8} {K C:Iv} {p p2:Option Addr} {k k2:Nat} (hv:SpAt ρ (.slice p K.length k) K) (hv2:SpAt ρ2 (.slice p2 C.length k2) C) (hc:chkCt c=0) (hse:0≤se∧se≤1099511627776) (hn1:1≤d.length) (hn:d.length≤990) (hb:c.s≤busy∧busy≤e∧e≤c.e) (hsr:1≤sr∧sr+1≤1099511627776) (hK:InI d.length K) (hC:InI d.length C) (hst:(st=1∧K≠[((0:Int),(d.length:Int))]∧due=busy+2*c.g+1)∨(st=2∧K=[((0:Int),(d.length:Int))]∧due=0)∨(st=3∧due=0)) (hs1':1≤sr'∧sr'≤1099511627776) (ht:busy≤t0∧t0≤2199023255552) :
  Eng.Spec Tryz.prog (fv 189) [.agg #[int c.f,int c.t,int c.s,int c.e,int c.r,int c.g,int c.l,int se,str d,int e,int busy,int sr,.slice p K.length k,int due,int st],int t0,.agg #[int 2,int se,int sr',int 0,int (d.length:Int),.bool false,str [],.slice p2 C.length k2]] [ρ,ρ2] [] (fun r H'=>(st=1∧RepPost r H' c se e busy sr due st t0 sr' d K C p k [int 0])∨(st≠1∧r=.tuple #[.agg #[int c.f,int c.t,int c.s,int c.e,int c.r,int c.g,int c.l,int se,str d,int e,int busy,int sr,.slice p K.length k,int due,int st],.slice none 0 0,int 0]∧H'=[])):=by
 have hcs:=chkCt_se hc
 have hck:=sndChk_spec hv hc hse hn1 hn hb ⟨hsr.1,by omega⟩ hK hst
 have hsg:=segChkR_spec (se:=se) hv2 hC hn1 (by omega) hs1'.1 hs1'.2 hse
 have hrp:=sndReport_spec (due:=due) (st:=st) (t0:=t0) (sr':=sr') hv hv2 hc hse hn1 hn hb hsr hK hC (by omega)
 obtain ⟨g1,g2⟩:=ht
 refine spec_in (cap:=[]) Tryz.func189 rfl rfl Tryz.ntmps189 rfl envZ (fun N β=>?_)
 refine Aa ?_;refine BK (BM rfl) rfl rfl rfl ?_;rintro _ _ ⟨b3,rfl,rfl⟩;refine AZ (ρ:=sng b3 _) takeZ ?_
 have cs:=rdB b3 83 [int c.f,int c.t,int c.s,int c.e,int c.r,int c.g,int c.l,int se,str d,int e,int busy,int sr,.slice p K.length k,int due,int st]
 have cs0:=rdC cs 0
 have cs1:=rdC cs 1
 have cs2:=rdC cs 2
 have cs3:=rdC cs 3
 have cs4:=rdC cs 4
 have cs5:=rdC cs 5
 have cs6:=rdC cs 6
 have cs7:=rdC cs 7
 have cs8:=rdC cs 8
 have cs9:=rdC cs 9
 have cs10:=rdC cs 10
 have cs11:=rdC cs 11
 have cs12:=rdC cs 12
 have cs13:=rdC cs 13
 have cs14:=rdC cs 14
 refine BK (BM rfl) rfl rfl rfl ?_;rintro _ _ ⟨b5,rfl,rfl⟩;refine AZ (ρ:=sng b5 _) takeZ ?_
 have cx:=rdB b5 37 [int 2,int se,int sr',int 0,int (d.length:Int),.bool false,str [],.slice p2 C.length k2]
 have cx0:=rdC cx 0
 have cx1:=rdC cx 1
 have cx2:=rdC cx 2
 have cx3:=rdC cx 3
 have cx4:=rdC cx 4
 have cx5:=rdC cx 5
 have cx6:=rdC cx 6
 have cx7:=rdC cx 7
 refine A6 ?_; rintro _ _ ⟨b,rfl,rfl⟩;refine Ac7 ?_
 revert b; intro b6
 refine AW hck rfl rfl rdZ rfl rfl ?_;rintro _ rfl;refine BJ ?_;refine AB ?_;refine AV ?_;refine AW hsg rfl rfl rdZ rfl rfl ?_;rintro _ rfl;refine Ac2 ?_;refine Aah ?_;refine Aae ?_
 focus ((refine AW (sndIn_spec (by omega) (by omega)) rfl rfl rdZ rfl rfl ?_; rintro _ rfl))
 refine Abm ?_;refine AD ?_
 refine BD (.q 1 (.q 2 (.l 0 .e (.q 3 (.q 4 (.q 5 (.q 6 (.q 7 (.q 8 .nil))))))))) [] rfl (by kernel_rfl) selZ ?_
 refine Aaj ?_;refine BL (CY rfl sndHand_spec rfl rfl rdZ rfl rfl ?_);rintro _ _ ⟨bm,rfl,rfl⟩;refine CF rfl (EV (l:=[(2,fv 245),(3,fv 246)]) (k:=2) (v:=fv 245) rfl rfl rfl rfl rfl (mapVAt_own memZ) rfl) rfl rfl rfl rfl ?_;refine AJ ?_;refine A2 ?_;refine A2 ?_;refine Abk ?_
 by_cases hs1:st=1
 rotate_left
 ·refine AD ?_
  refine Aca ?_;refine Aap ?_;refine DB ?_;refine AR ?_;refine Abf ?_;refine Aa0 ?_;refine Abr ?_;refine Aaz ?_;refine AX ?_; rintro _ _ ⟨rfl,rfl⟩;refine Aai ?_;exact AK (H':=[]) (resSEE (b1:=b6) (T:=83) (v1:=[int c.f,int c.t,int c.s,int c.e,int c.r,int c.g,int c.l,int se,str d,int e,int busy,int sr,.slice p K.length k,int due,int st]) rfl rfl rfl rfl rfl rfl (cells_own memZ)) rsubZ selZ (.inr ⟨hs1,rfl,rfl⟩)
 refine Aah ?_;refine BC ?_;refine Aap ?_;refine BJ ?_;refine Aci ?_;refine Ac2 ?_;refine Aab ?_;refine AV ?_;refine AB ?_;refine AV ?_;refine BG hrp rfl rfl Takes.nil rdZ rfl rfl ?_;rintro _ _ (⟨hs,rfl,rfl⟩|⟨hs,hw,p3,c3,σ,hO,rfl,rfl⟩|⟨hs,hw,hlate,p3,c3,σ,hO,rfl,rfl⟩|⟨hs,hw,hok,p3,c3,σ,p4,c4,σ4,hO,hO4,rfl,rfl⟩)
 ·refine AB ?_
  refine Aaq ?_;refine A6 ?_; rintro _ _ ⟨b,rfl,rfl⟩;refine AX ?_; rintro _ _ ⟨rfl,rfl⟩;refine Acx ?_;refine AB ?_;refine AX ?_; rintro _ _ ⟨rfl,rfl⟩;refine Aai ?_;exact AK (H':=[]) (resSEE (b1:=b6) (T:=83) (v1:=[int c.f,int c.t,int c.s,int c.e,int c.r,int c.g,int c.l,int se,str d,int e,int busy,int sr,.slice p K.length k,int due,int st]) rfl rfl rfl rfl rfl rfl (cells_own memZ)) rsubZ selZ (.inl ⟨hs1,.inl ⟨hs,rfl,rfl⟩⟩)
 ·refine AB ?_
  refine Aaq ?_;refine A6 ?_; rintro _ _ ⟨b,rfl,rfl⟩;refine AX ?_; rintro _ _ ⟨rfl,rfl⟩;refine Acx ?_;refine AB ?_;refine AX ?_; rintro _ _ ⟨rfl,rfl⟩;refine Aai ?_;exact AK (H':=[σ]) (resSEE (b1:=b6) (T:=83) (v1:=[int c.f,int c.t,int c.s,int c.e,int c.r,int c.g,int c.l,int se,str d,int e,int busy,int sr,.slice p3 (unionI K C).length c3,int 0,int 2]) rfl rfl rfl rfl rfl rfl (cells_own memZ)) rsubZ selZ (.inl ⟨hs1,.inr (.inl ⟨hs,hw,p3,c3,σ,hO,rfl,rfl⟩)⟩)
 ·refine AB ?_
  refine Aaq ?_;refine A6 ?_; rintro _ _ ⟨b,rfl,rfl⟩;refine AX ?_; rintro _ _ ⟨rfl,rfl⟩;refine Acx ?_;refine AB ?_;refine AX ?_; rintro _ _ ⟨rfl,rfl⟩;refine Aai ?_;exact AK (H':=[σ]) (resSEE (b1:=b6) (T:=83) (v1:=[int c.f,int c.t,int c.s,int c.e,int c.r,int c.g,int c.l,int se,str d,int e,int busy,int sr,.slice p3 (unionI K C).length c3,int 0,int 3]) rfl rfl rfl rfl rfl rfl (cells_own memZ)) rsubZ selZ (.inl ⟨hs1,.inr (.inr (.inl ⟨hs,hw,hlate,p3,c3,σ,hO,rfl,rfl⟩))⟩)
 ·refine AB ?_
  refine Aaq ?_;refine A6 ?_; rintro _ _ ⟨b,rfl,rfl⟩;refine AX ?_; rintro _ _ ⟨rfl,rfl⟩;refine Acx ?_;refine AB ?_;refine AX ?_; rintro _ _ ⟨rfl,rfl⟩;refine Aai ?_;exact AK (H':=[σ4,σ]) (resSEE (b1:=b6) (T:=83) (v1:=[int c.f,int c.t,int c.s,int c.e,int c.r,int c.g,int c.l,int se,str d,int e,int (endG c.r t0 (bat (sr+1) (pcsAll (missI d.length (unionI K C))))),int (sr+1),.slice p3 (unionI K C).length c3,int ((endG c.r t0 (bat (sr+1) (pcsAll (missI d.length (unionI K C)))))+2*c.g+1),int 1]) rfl rfl rfl rfl rfl rfl (cells_own memZ)) rsubZ selZ (.inl ⟨hs1,.inr (.inr (.inr ⟨hs,hw,hok,p3,c3,σ,p4,c4,σ4,hO,hO4,rfl,rfl⟩))⟩)
end Go.Proofs.YtahbngakckbenaaGreatDoor
namespace Go.Step
open Go.Eng
theorem miss_pcs {n:Int} {K:Iv} (h:InI n K) (hn:0<n) :
    (∀ x∈pcsAll (missI n K),0≤x.1∧x.1<x.2∧x.2≤n)∧(∀ t,memI (pcsAll (missI n K)) t=(decide (0≤t∧t<n) && !memI K t))∧lenI (pcsAll (missI n K))=lenI (missI n K)∧(pcsAll (missI n K)).Pairwise (fun x y=>x.2≤y.1)∧((pcsAll (missI n K)).length:Int)≤n:=by
  obtain ⟨m1,m2⟩:=missI_ok h hn
  obtain ⟨p1,p2,p3,p4⟩:=pcsAll_ok m1.1 (fun x hx=>(m1.at x hx).1)
  refine ⟨fun x hx=>?_,fun t=>by rw [p2,m2],p3,p4,pcsAll_len m1 (by omega)⟩
  obtain ⟨y,hy,g1,g2,g3,_⟩:=p1 x hx
  have:=m1.at y hy
  omega
theorem slAt_rd {ρ:PH} {s n c b o:Nat} {xs:List Value} (h:SlAt ρ s (.slice (some ⟨b,o,none⟩) n c) n xs) (hn:0<n):RdN ρ b o xs:=by
  obtain ⟨_,⟨h0,_⟩|⟨b',o',c',e,h2⟩⟩:=h
  · omega
  · simp only [Value.slice.injEq,Option.some.injEq,Addr.mk.injEq,and_true] at e
    obtain ⟨⟨rfl,rfl⟩,_⟩:=e
    exact h2
end Go.Step
namespace Go.Step
open Go.Eng
inductive Msg where
  | dat (x:Sg)
  | rep (sr:Int) (K:Iv)
structure Frm where
  arr:Int
  num:Int
  g:Msg
structure Ch where
  fr:List Frm
  sent:Int
  lost:Int
def insF (f:Frm):List Frm→List Frm
  | []=>[f]
  | x::l=>if f.arr<x.arr then f::x::l else x::insF f l
def insFs (t num:Int) (g:Msg):List Int→List Frm→List Frm
  | [],l=>l
  | d::ds,l=>insFs t num g ds (insF ⟨t+d,num,g⟩ l)
def chSend (rng:Int) (c:Ch) (t:Int) (g:Msg) (ds:List Int):Option Ch:=
  if 10000<c.fr.length+ds.length then none else some ⟨insFs t c.sent g ds c.fr,c.sent+1,if rng∈ds then c.lost else c.lost+1⟩
def fateM (n rng:Int):List Int:=
  let k:=n % 8
  let m:=(n / 8) % rng
  if k<4 then [rng] else if k<6 then [rng,rng+1+m] else if k<7 then [rng+1+m] else []
structure Par where
  c:Ct
  d:List UInt8
  e:Int
  picks:List Int
  limit:Int
  dark:Iv
structure Sd where
  busy:Int
  sr:Int
  due:Int
  st:Int
  K:Iv
def sendM (P:Par) (s:Sd) (t:Int) (sr:Int) (G:List Sg):Sd × List (Int × Sg):=
  if P.e<endG P.c.r t G then ({ s with due:=0,st:=3 },[]) else (⟨endG P.c.r t G,sr,endG P.c.r t G+2*P.c.g+1,1,s.K⟩,timed P.c.r t G)
def batM (P:Par) (s:Sd):List Sg:=bat (s.sr+1) (pcsAll (missI P.d.length s.K))
def hearM (P:Par) (s:Sd) (t sr:Int) (C:Iv):Sd × List (Int × Sg):=
  if s.st≠1∨sr≠s.sr then (s,[]) else
  if unionI s.K C=[(0,(P.d.length:Int))] then ({ s with due:=0,st:=2,K:=unionI s.K C },[]) else
  sendM P { s with K:=unionI s.K C } t (s.sr+1) (batM P { s with K:=unionI s.K C })
def waitM (P:Par) (s:Sd) (t:Int):Sd × List (Int × Sg):=sendM P s t (s.sr+1) ((batM P s).drop ((batM P s).length-1))
structure Ss where
  dat:Ch
  rep:Ch
  ent:Int
  dis:Int
  out0:List (Int × Sg)
  out1:List (Int × Int × Iv)
  now:Int
  snd:Sd
  K:Iv
  wait:List (Int × Sg)
  rcvd:Bool
  arr:Int
  kn:Bool
  knAt:Int
def delM (P:Par) (s:Ss) (t:Int):List Int × Int:=
  if memI P.dark t then ([],s.dis) else
  if P.picks=[] then ([P.c.g],s.dis) else
  let f:=fateM (P.picks.getD (s.ent.toNat % P.picks.length) 0) P.c.g
  if f.head?=some P.c.g then (f,s.dis) else
  if 0≤P.limit∧P.limit≤s.dis then ([P.c.g],s.dis) else (f,s.dis+1)
def enter0 (P:Par) (s:Ss) (t:Int) (x:Sg):Ss:=
  if 10000≤s.ent then s else
  match chSend P.c.g s.dat t (.dat x) (delM P s t).1 with
  | none=>{ s with dis:=(delM P s t).2 }
  | some c=>{ s with dat:=c,dis:=(delM P s t).2,ent:=s.ent+1,out0:=s.out0 ++ [(t,x)] }
def enter1 (P:Par) (s:Ss) (t:Int) (sr:Int) (K:Iv):Ss:=
  if 10000≤s.ent then s else
  match chSend P.c.g s.rep t (.rep sr K) (delM P s t).1 with
  | none=>{ s with dis:=(delM P s t).2 }
  | some c=>{ s with rep:=c,dis:=(delM P s t).2,ent:=s.ent+1,out1:=s.out1 ++ [(t,sr,K)] }
def trM (P:Par):List (Int × Sg)→Ss→Ss
  | [],s=>{ s with wait:=[] }
  | (t,x)::w,s=>if t=s.now then trM P w (enter0 P s s.now x) else { s with wait:=(t,x)::w }
def dlv1 (P:Par) (s:Ss) (x:Sg):Ss:=
  let K:=unionI s.K [((x.a:Int),(x.b:Int))]
  let s1:=if 1≤x.sr then enter1 P { s with K:=K } s.now x.sr K else { s with K:=K }
  if s1.rcvd=false∧K=[(0,(P.d.length:Int))] then { s1 with rcvd:=true,arr:=s1.now } else s1
def dlvM (P:Par):Nat→Ss→Ss
  | 0,s=>s
  | n+1,s=>match s.dat.fr with
    | ⟨t,_,.dat x⟩::l=>if t=s.now then dlvM P n (dlv1 P { s with dat:={ s.dat with fr:=l } } x) else s
    | _=>s
def lsn1 (P:Par) (s:Ss) (sr:Int) (C:Iv):Ss:=
  if s.now<s.snd.busy then s else
  let r:=hearM P s.snd s.now sr C
  let s1:={ s with snd:=r.1,wait:=s.wait ++ r.2 }
  if s1.kn=false∧r.1.st=2 then { s1 with kn:=true,knAt:=s1.now } else s1
def lsnM (P:Par):Nat→Ss→Ss
  | 0,s=>s
  | n+1,s=>match s.rep.fr with
    | ⟨t,_,.rep sr C⟩::l=>if t=s.now then lsnM P n (lsn1 P { s with rep:={ s.rep with fr:=l } } sr C) else s
    | _=>s
def waitsM (s:Ss):Bool:=decide (s.snd.st=1) && decide (s.ent<10000)
def expM (P:Par) (s:Ss):Ss:=
  if waitsM s=false∨s.snd.due≠s.now then s else
  let r:=waitM P s.snd s.now
  { s with snd:=r.1,wait:=s.wait ++ r.2 }
def minO:Option Int→Option Int→Option Int
  | none,b=>b
  | some a,none=>some a
  | some a,some b=>if b<a then some b else some a
def clrM (s:Ss):Ss:=if 10000≤s.ent then { s with wait:=[] } else s
def nextM (s:Ss):Option Int:=
  minO (minO (minO (s.wait.head?.map (·.1)) (s.dat.fr.head?.map (·.arr))) (s.rep.fr.head?.map (·.arr))) (if waitsM s then some s.snd.due else none)
def roundM (P:Par) (s:Ss) (t:Int):Ss:=
  let s1:=trM P s.wait { s with now:=t }
  let s2:=dlvM P s1.dat.fr.length s1
  let s3:=lsnM P s2.rep.fr.length s2
  expM P s3
inductive Runs (P:Par):Ss→Ss→Prop
  | stop {s:Ss}:nextM (clrM s)=none→Runs P s (clrM s)
  | step {s s':Ss} {t:Int}:nextM (clrM s)=some t→Runs P (roundM P (clrM s) t) s'→Runs P s s'
theorem Runs.det {P:Par} {s a b:Ss} (h:Runs P s a):Runs P s b→a=b:=by
  induction h with
  | stop h =>
    intro h2
    cases h2 with
    | stop _=>rfl
    | step h3 _=>rw [h] at h3; cases h3
  | step h _ ih =>
    intro h2
    cases h2 with
    | stop h3=>rw [h] at h3; cases h3
    | step h3 h4 =>
      rw [h] at h3
      obtain rfl:=Option.some.inj h3
      exact ih h4
def beginM (P:Par) (t0:Int):Ss:=
  let G:=bat 1 (pcsAll (missI P.d.length []))
  ⟨⟨[],0,0⟩,⟨[],0,0⟩,0,0,[],[],0,⟨endG P.c.r t0 G,1,endG P.c.r t0 G+2*P.c.g+1,1,[]⟩,[],timed P.c.r t0 G,false,0,false,0⟩
end Go.Step
namespace Go.Step
open Go.Eng
theorem insF_mem (f : Frm) : ∀ (l : List Frm) (y : Frm), y ∈ insF f l ↔ y = f ∨ y ∈ l
  | [], y => by simp [insF]
  | x :: l, y => by
    unfold insF
    split
    · simp
    · rw [List.mem_cons, insF_mem f l y, List.mem_cons]
      constructor
      · rintro (h | h | h)
        · exact .inr (.inl h)
        · exact .inl h
        · exact .inr (.inr h)
      · rintro (h | h | h)
        · exact .inr (.inl h)
        · exact .inl h
        · exact .inr (.inr h)
theorem insF_len (f : Frm) : ∀ l : List Frm, (insF f l).length = l.length + 1
  | [] => rfl
  | x :: l => by
    unfold insF
    split
    · rfl
    · rw [List.length_cons, insF_len f l]; rfl
theorem insF_srt (f : Frm) : ∀ l : List Frm, l.Pairwise (fun x y => x.arr ≤ y.arr) → (insF f l).Pairwise (fun x y => x.arr ≤ y.arr)
  | [], _ => List.pairwise_singleton _ _
  | x :: l, h => by
    obtain ⟨h1, h2⟩ := List.pairwise_cons.1 h
    unfold insF
    split
    · rename_i hlt
      refine List.pairwise_cons.2 ⟨fun y hy => ?_, h⟩
      rcases List.mem_cons.1 hy with rfl | hy
      · omega
      · have := h1 y hy; omega
    · rename_i hge
      refine List.pairwise_cons.2 ⟨fun y hy => ?_, insF_srt f l h2⟩
      rcases (insF_mem f l y).1 hy with rfl | hy
      · omega
      · exact h1 y hy
theorem insFs_ok (t num : Int) (g : Msg) : ∀ (ds : List Int) (l : List Frm), l.Pairwise (fun x y => x.arr ≤ y.arr) →
    (insFs t num g ds l).Pairwise (fun x y => x.arr ≤ y.arr) ∧ (insFs t num g ds l).length = l.length + ds.length ∧ ∀ y ∈ insFs t num g ds l, y ∈ l ∨ ∃ d ∈ ds, y = ⟨t + d, num, g⟩
  | [], l, h => ⟨h, rfl, fun y hy => .inl hy⟩
  | d :: ds, l, h => by
    obtain ⟨i1, i2, i3⟩ := insFs_ok t num g ds (insF ⟨t + d, num, g⟩ l) (insF_srt _ l h)
    refine ⟨i1, by show (insFs t num g ds _).length = _; rw [i2, insF_len]; simp; omega, fun y hy => ?_⟩
    rcases i3 y hy with h1 | ⟨d', h1, h2⟩
    · rcases (insF_mem _ l y).1 h1 with rfl | h1
      · exact .inr ⟨d, by simp, rfl⟩
      · exact .inl h1
    · exact .inr ⟨d', by simp [h1], h2⟩
def subI (A B : Iv) : Prop := ∀ t, memI A t = true → memI B t = true
def gOK (n : Nat) (K : Iv) (isd : Bool) : Msg → Prop
  | .dat x => isd = true ∧ okG n x
  | .rep sr C => isd = false ∧ InI n C ∧ subI C K ∧ 1 ≤ sr ∧ sr ≤ 1099511627776
theorem gOK.mono {n : Nat} {K K' : Iv} {isd : Bool} {g : Msg} (h : gOK n K isd g) (hs : subI K K') : gOK n K' isd g := by
  cases g with
  | dat x => exact h
  | rep sr C => exact ⟨h.1, h.2.1, fun t ht => hs t (h.2.2.1 t ht), h.2.2.2⟩
structure ChOK (lo hi : Int) (n : Nat) (K : Iv) (isd : Bool) (c : Ch) : Prop where
  fr : ∀ f ∈ c.fr, lo ≤ f.arr ∧ f.arr ≤ hi ∧ 0 ≤ f.num ∧ f.num < c.sent ∧ gOK n K isd f.g
  srt : c.fr.Pairwise (fun x y => x.arr ≤ y.arr)
  lst : 0 ≤ c.lost ∧ c.lost ≤ c.sent
  len : c.fr.length ≤ 10000
theorem ChOK.mono {lo lo' hi : Int} {n : Nat} {K K' : Iv} {isd : Bool} {c : Ch} (h : ChOK lo hi n K isd c) (hl : lo' ≤ lo) (hs : subI K K') : ChOK lo' hi n K' isd c :=
  ⟨fun f hf => by have := h.fr f hf; exact ⟨by omega, this.2.1, this.2.2.1, this.2.2.2.1, this.2.2.2.2.mono hs⟩, h.srt, h.lst, h.len⟩
theorem ChOK.nil (lo hi : Int) (n : Nat) (K : Iv) (isd : Bool) : ChOK lo hi n K isd ⟨[], 0, 0⟩ :=
  ⟨fun f hf => absurd hf (by simp), List.Pairwise.nil, ⟨Int.le_refl _, Int.le_refl _⟩, Nat.zero_le _⟩
theorem chSend_ok {lo hi rng t : Int} {n : Nat} {K : Iv} {isd : Bool} {c c' : Ch} {g : Msg} {ds : List Int} (h : ChOK lo hi n K isd c) (hg : gOK n K isd g) (hr : 1 ≤ rng ∧ rng ≤ 1048576) (hlo : lo ≤ t + rng) (hhi : t + 2 * rng ≤ hi) (hd : ∀ d ∈ ds, rng ≤ d ∧ d ≤ 2 * rng) (e : chSend rng c t g ds = some c') :
    ChOK lo hi n K isd c' ∧ c'.sent = c.sent + 1 := by
  unfold chSend at e
  split at e
  · cases e
  · rename_i hle
    obtain rfl := Option.some.inj e
    obtain ⟨i1, i2, i3⟩ := insFs_ok t c.sent g ds c.fr h.srt
    refine ⟨⟨fun f hf => ?_, i1, ?_, by show (insFs _ _ _ _ _).length ≤ _; rw [i2]; omega⟩, rfl⟩
    · rcases i3 f hf with hf | ⟨d, hd1, rfl⟩
      · have := h.fr f hf
        exact ⟨this.1, this.2.1, this.2.2.1, by dsimp only; omega, this.2.2.2.2⟩
      · have := hd d hd1
        have := h.lst
        exact ⟨by dsimp only; omega, by dsimp only; omega, by dsimp only; omega, by dsimp only; omega, hg⟩
    · have := h.lst
      dsimp only
      split <;> omega
theorem fateM_ok {n rng : Int} (hr : 1 ≤ rng) : ∀ d ∈ fateM n rng, rng ≤ d ∧ d ≤ 2 * rng := by
  intro d hd
  have h1 := Int.emod_nonneg (n / 8) (show rng ≠ 0 by omega)
  have h2 := Int.emod_lt_of_pos (n / 8) (show 0 < rng by omega)
  unfold fateM at hd;simp only at hd
  split at hd
  · simp at hd; omega
  · split at hd
    · simp at hd; omega
    · split at hd
      · simp at hd; omega
      · simp at hd
structure okP (P : Par) (t0 : Int) : Prop where
  hc : chkCt P.c = 0
  n1 : 1 ≤ P.d.length
  n2 : P.d.length ≤ 990
  h0 : P.c.s ≤ t0
  h1 : t0 ≤ P.e
  h2 : P.e ≤ P.c.e
theorem delM_ok {P : Par} {t0 : Int} (hP : okP P t0) (s : Ss) (t : Int) : ∀ d ∈ (delM P s t).1, P.c.g ≤ d ∧ d ≤ 2 * P.c.g := by
  have hg := (chkCt_rg hP.hc).2.1
  intro d hd
  unfold delM at hd
  split at hd
  · cases hd
  split at hd
  · simp at hd; omega
  simp only at hd
  split at hd
  · exact fateM_ok hg.1 d hd
  split at hd
  · simp at hd; omega
  · exact fateM_ok hg.1 d hd
structure SdOK (P : Par) (K : Iv) (s : Sd) : Prop where
  b : P.c.s ≤ s.busy ∧ s.busy ≤ P.e
  r : 1 ≤ s.sr ∧ s.sr ≤ s.busy
  k : InI P.d.length s.K
  ks : subI s.K K
  st : (s.st = 1 ∧ s.K ≠ [((0 : Int), (P.d.length : Int))] ∧ s.due = s.busy + 2 * P.c.g + 1) ∨ (s.st = 2 ∧ s.K = [((0 : Int), (P.d.length : Int))] ∧ s.due = 0) ∨ (s.st = 3 ∧ s.due = 0)
structure SI (P : Par) (t0 : Int) (s : Ss) (ld lr lw lt : Int) : Prop where
  dat : ChOK ld (P.e + 2 * P.c.g) P.d.length s.K true s.dat
  rep : ChOK lr 2199023255552 P.d.length s.K false s.rep
  wt : ∀ x ∈ s.wait, lw ≤ x.1 ∧ x.1 ≤ s.snd.busy ∧ okG P.d.length x.2
  ws : s.wait.Pairwise (fun x y => x.1 < y.1)
  du : waitsM s = true → lt ≤ s.snd.due
  sn : SdOK P s.K s.snd
  k : InI P.d.length s.K
  o0 : ∀ x ∈ s.out0, t0 < x.1 ∧ x.1 ≤ P.e ∧ okG P.d.length x.2
  o1 : ∀ y ∈ s.out1, InI P.d.length y.2.2 ∧ subI y.2.2 s.K
  en : s.ent = s.out0.length + s.out1.length ∧ s.ent = s.dat.sent + s.rep.sent ∧ s.ent ≤ 10000
  kn : s.kn = true → s.snd.K = [((0 : Int), (P.d.length : Int))]
theorem subI.refl (A : Iv) : subI A A := fun _ h => h
theorem enter0_ok {P : Par} {t0 : Int} (hP : okP P t0) {s : Ss} {ld lr lw lt t : Int} {x : Sg} (h : SI P t0 s ld lr lw lt) (hx : okG P.d.length x) (ht : t0 < t ∧ t ≤ P.e) (hl : ld ≤ t + P.c.g) :
    SI P t0 (enter0 P s t x) ld lr lw lt ∧ (enter0 P s t x).wait = s.wait ∧ (enter0 P s t x).now = s.now ∧ (enter0 P s t x).snd = s.snd ∧ (enter0 P s t x).K = s.K ∧ (enter0 P s t x).rep = s.rep ∧ (enter0 P s t x).rcvd = s.rcvd := by
  have hcr := chkCt_rg hP.hc
  have hcs := chkCt_se hP.hc
  have h0 := hP.h0
  have h2 := hP.h2
  unfold enter0
  split
  · exact ⟨h, rfl, rfl, rfl, rfl, rfl, rfl⟩
  rename_i hent
  split
  · exact ⟨⟨h.dat, h.rep, h.wt, h.ws, h.du, h.sn, h.k, h.o0, h.o1, h.en, h.kn⟩, rfl, rfl, rfl, rfl, rfl, rfl⟩
  · rename_i c hc
    obtain ⟨k1, k2⟩ := chSend_ok h.dat (show gOK P.d.length s.K true (.dat x) from ⟨rfl, hx⟩) hcr.2.1 hl (by omega) (delM_ok hP s t) hc
    have en := h.en
    refine ⟨⟨k1, h.rep, h.wt, h.ws, fun hw => h.du ?_, h.sn, h.k, fun y hy => ?_, h.o1, ?_, h.kn⟩, rfl, rfl, rfl, rfl, rfl, rfl⟩
    · unfold waitsM at hw ⊢
      simp only [Bool.and_eq_true, decide_eq_true_eq] at hw ⊢
      exact ⟨hw.1, by omega⟩
    · rcases List.mem_append.1 hy with hy | hy
      · exact h.o0 y hy
      · simp at hy; subst hy; exact ⟨ht.1, ht.2, hx⟩
    · dsimp only
      rw [List.length_append, k2];simp only [List.length_singleton, Int.natCast_add];omega
theorem enter1_ok {P : Par} {t0 : Int} (hP : okP P t0) {s : Ss} {ld lr lw lt t sr : Int} {C : Iv} (h : SI P t0 s ld lr lw lt) (hC : InI P.d.length C) (hs : subI C s.K) (hr : 1 ≤ sr ∧ sr ≤ 1099511627776) (ht : 0 ≤ t ∧ t ≤ 1099511627776) (hl : lr ≤ t + P.c.g) :
    SI P t0 (enter1 P s t sr C) ld lr lw lt ∧ (enter1 P s t sr C).wait = s.wait ∧ (enter1 P s t sr C).now = s.now ∧ (enter1 P s t sr C).snd = s.snd ∧ (enter1 P s t sr C).K = s.K ∧ (enter1 P s t sr C).dat = s.dat ∧ (enter1 P s t sr C).out0 = s.out0 ∧ (enter1 P s t sr C).rcvd = s.rcvd := by
  have hcr := chkCt_rg hP.hc
  unfold enter1
  split
  · exact ⟨h, rfl, rfl, rfl, rfl, rfl, rfl, rfl⟩
  rename_i hent
  split
  · exact ⟨⟨h.dat, h.rep, h.wt, h.ws, h.du, h.sn, h.k, h.o0, h.o1, h.en, h.kn⟩, rfl, rfl, rfl, rfl, rfl, rfl, rfl⟩
  · rename_i c hc
    obtain ⟨k1, k2⟩ := chSend_ok h.rep (show gOK P.d.length s.K false (.rep sr C) from ⟨rfl, hC, hs, hr⟩) hcr.2.1 hl (by omega) (delM_ok hP s t) hc
    have en := h.en
    refine ⟨⟨h.dat, k1, h.wt, h.ws, fun hw => h.du ?_, h.sn, h.k, h.o0, fun y hy => ?_, ?_, h.kn⟩, rfl, rfl, rfl, rfl, rfl, rfl, rfl⟩
    · unfold waitsM at hw ⊢
      simp only [Bool.and_eq_true, decide_eq_true_eq] at hw ⊢
      exact ⟨hw.1, by omega⟩
    · rcases List.mem_append.1 hy with hy | hy
      · exact h.o1 y hy
      · simp at hy; subst hy; exact ⟨hC, hs⟩
    · dsimp only
      rw [List.length_append, k2];simp only [List.length_singleton, Int.natCast_add];omega
theorem trM_ok {P : Par} {t0 : Int} (hP : okP P t0) {ld lr lt n : Int} (ht : t0 < n) (hl : ld ≤ n + P.c.g) : ∀ (w : List (Int × Sg)) {s : Ss}, s.now = n → SI P t0 { s with wait := w } ld lr n lt →
    SI P t0 (trM P w s) ld lr (n + 1) lt ∧ (trM P w s).now = n ∧ (trM P w s).snd = s.snd ∧ (trM P w s).K = s.K ∧ (trM P w s).rep = s.rep ∧ (trM P w s).rcvd = s.rcvd
  | [], s, hn, h => ⟨⟨h.dat, h.rep, fun x hx => absurd hx (by simp [trM]), List.Pairwise.nil, h.du, h.sn, h.k, h.o0, h.o1, h.en, h.kn⟩, hn, rfl, rfl, rfl, rfl⟩
  | (t, x) :: w, s, hn, h => by
    obtain ⟨w1, w2, w3⟩ := h.wt (t, x) (by simp)
    obtain ⟨p1, p2⟩ := List.pairwise_cons.1 h.ws
    dsimp only at w1 w2 w3
    unfold trM
    split
    · rename_i hts
      have hle : s.now ≤ P.e := by have := h.sn.b.2; dsimp only at this; omega
      have hS : SI P t0 { s with wait := w } ld lr n lt := ⟨h.dat, h.rep, fun y hy => h.wt y (List.mem_cons_of_mem _ hy), p2, h.du, h.sn, h.k, h.o0, h.o1, h.en, h.kn⟩
      have e0 : enter0 P { s with wait := w } s.now x = { enter0 P s s.now x with wait := w } := by
        unfold enter0
        split
        · rfl
        · show (match chSend P.c.g s.dat s.now (.dat x) (delM P s s.now).1 with | none => _ | some c => _) = _
          cases chSend P.c.g s.dat s.now (.dat x) (delM P s s.now).1 <;> rfl
      obtain ⟨k1, _, k3, k4, k5, k6, k7⟩ := enter0_ok hP (t := s.now) hS w3 ⟨by omega, hle⟩ (by omega)
      rw [e0] at k1 k3 k4 k5 k6 k7
      dsimp only at k3 k4 k5 k6 k7
      have hr := trM_ok hP ht hl w (s := enter0 P s s.now x) (by rw [k3]; exact hn) k1
      rw [k4, k5, k6, k7] at hr;exact hr
    · rename_i hts
      refine ⟨⟨h.dat, h.rep, fun y hy => ?_, h.ws, h.du, h.sn, h.k, h.o0, h.o1, h.en, h.kn⟩, hn, rfl, rfl, rfl, rfl⟩
      have := h.wt y hy
      dsimp only at this ⊢
      rcases List.mem_cons.1 hy with rfl | hy
      · exact ⟨by dsimp only at this ⊢; omega, this.2⟩
      · have h3 := p1 y hy
        dsimp only at h3
        exact ⟨by omega, this.2⟩
theorem ChOK.tail {lo hi : Int} {n : Nat} {K : Iv} {isd : Bool} {c : Ch} {f : Frm} {l : List Frm} (h : ChOK lo hi n K isd c) (e : c.fr = f :: l) : ChOK lo hi n K isd { c with fr := l } :=
  ⟨fun y hy => h.fr y (by rw [e]; exact List.mem_cons_of_mem _ hy), (by have := h.srt; rw [e] at this; exact (List.pairwise_cons.1 this).2), h.lst, (by have := h.len; rw [e] at this; simp at this; show l.length ≤ _; omega)⟩
theorem ChOK.up {lo hi : Int} {n : Nat} {K : Iv} {isd : Bool} {c : Ch} (h : ChOK lo hi n K isd c) (hh : ∀ f l, c.fr = f :: l → f.arr ≠ lo) : ChOK (lo + 1) hi n K isd c := by
  refine ⟨fun y hy => ?_, h.srt, h.lst, h.len⟩
  have hy2 := h.fr y hy
  cases e : c.fr with
  | nil => rw [e] at hy; cases hy
  | cons f l =>
    have hf := hh f l e
    have hf2 := h.fr f (by rw [e]; simp)
    have hs := h.srt
    rw [e] at hs hy
    have : f.arr ≤ y.arr := by
      rcases List.mem_cons.1 hy with rfl | hy
      · exact Int.le_refl _
      · exact (List.pairwise_cons.1 hs).1 y hy
    exact ⟨by omega, hy2.2⟩
theorem whole_sub {n : Int} {K K' : Iv} (h : InI n K') (hn : 0 < n) (hs : subI K K') (hw : K = [(0, n)]) : K' = [(0, n)] :=
  h.all hn (fun t a b => hs t (by rw [hw, mem_one, decide_eq_true_iff]; exact ⟨a, b⟩))
def rcOK (P : Par) (s : Ss) : Prop := s.rcvd = true ↔ s.K = [((0 : Int), (P.d.length : Int))]
theorem dlv1_ok {P : Par} {t0 : Int} (hP : okP P t0) {s : Ss} {ld lr lw lt n : Int} {x : Sg} (h : SI P t0 s ld lr lw lt) (hrc : rcOK P s) (hn : s.now = n) (hx : okG P.d.length x) (ht : 0 ≤ n ∧ n ≤ 1099511627776) (hl : lr ≤ n + P.c.g) :
    SI P t0 (dlv1 P s x) ld lr lw lt ∧ rcOK P (dlv1 P s x) ∧ (dlv1 P s x).now = n ∧ (dlv1 P s x).snd = s.snd ∧ (dlv1 P s x).wait = s.wait ∧ (dlv1 P s x).dat = s.dat ∧ (dlv1 P s x).out0 = s.out0 := by
  obtain ⟨h1, h2, h3, h4, h5⟩ := hx
  have hn1 := hP.n1
  obtain ⟨k1, k2, _⟩ := h.k.put (a := (x.a : Int)) (b := (x.b : Int)) (by omega) (by omega) (by omega)
  have hsub : subI s.K (unionI s.K [((x.a : Int), (x.b : Int))]) := fun t hm => by rw [k2, hm]; rfl
  have hrw : s.rcvd = true → unionI s.K [((x.a : Int), (x.b : Int))] = [((0 : Int), (P.d.length : Int))] := fun hr => whole_sub k1 (by omega) hsub (hrc.1 hr)
  unfold dlv1;simp only
  generalize unionI s.K [((x.a : Int), (x.b : Int))] = K2 at k1 k2 hsub hrw
  have hS : SI P t0 { s with K := K2 } ld lr lw lt :=
    ⟨h.dat.mono (Int.le_refl _) hsub, h.rep.mono (Int.le_refl _) hsub, h.wt, h.ws, h.du, ⟨h.sn.b, h.sn.r, h.sn.k, fun t hm => hsub t (h.sn.ks t hm), h.sn.st⟩, k1, h.o0, fun y hy => ⟨(h.o1 y hy).1, fun t hm => hsub t ((h.o1 y hy).2 t hm)⟩, h.en, h.kn⟩
  -- with or without a report
  have key : ∃ s1, (if 1 ≤ x.sr then enter1 P { s with K := K2 } s.now x.sr K2 else { s with K := K2 }) = s1 ∧ SI P t0 s1 ld lr lw lt ∧ s1.now = n ∧ s1.snd = s.snd ∧ s1.wait = s.wait ∧ s1.dat = s.dat ∧ s1.out0 = s.out0 ∧ s1.K = K2 ∧ s1.rcvd = s.rcvd := by
    by_cases hc : 1 ≤ x.sr
    · rw [if_pos hc]
      obtain ⟨j1, j2, j3, j4, j5, j6, j7, j8⟩ := enter1_ok hP (t := s.now) (sr := x.sr) (C := K2) hS k1 (subI.refl _) ⟨hc, h5⟩ (by omega) (by omega)
      exact ⟨_, rfl, j1, by rw [j3]; exact hn, j4, j2, j6, j7, j5, j8⟩
    · rw [if_neg hc]
      exact ⟨_, rfl, hS, hn, rfl, rfl, rfl, rfl, rfl, rfl⟩
  obtain ⟨s1, e, i1, i2, i3, i4, i5, i6, i7, i8⟩ := key
  rw [e]
  split
  · rename_i hc
    refine ⟨⟨i1.dat, i1.rep, i1.wt, i1.ws, i1.du, i1.sn, i1.k, i1.o0, i1.o1, i1.en, i1.kn⟩, ?_, i2, i3, i4, i5, i6⟩
    exact ⟨fun _ => by show s1.K = _; rw [i7]; exact hc.2, fun _ => rfl⟩
  · rename_i hc
    refine ⟨i1, ?_, i2, i3, i4, i5, i6⟩;unfold rcOK;rw [i7, i8]
    refine ⟨hrw, fun hw => ?_⟩
    cases hr : s.rcvd with
    | true => rfl
    | false => exact absurd ⟨by rw [i8, hr], hw⟩ hc
theorem dlvM_ok {P : Par} {t0 : Int} (hP : okP P t0) {lr lw lt n : Int} (ht : 0 ≤ n) (hl : lr ≤ n + P.c.g) : ∀ (f : Nat) {s : Ss}, s.dat.fr.length ≤ f → SI P t0 s n lr lw lt → rcOK P s → s.now = n →
    SI P t0 (dlvM P f s) (n + 1) lr lw lt ∧ rcOK P (dlvM P f s) ∧ (dlvM P f s).now = n ∧ (dlvM P f s).snd = s.snd ∧ (dlvM P f s).wait = s.wait ∧ (dlvM P f s).out0 = s.out0
  | 0, s, hf, h, hr, hn => by
    refine ⟨⟨h.dat.up (fun f l e => ?_), h.rep, h.wt, h.ws, h.du, h.sn, h.k, h.o0, h.o1, h.en, h.kn⟩, hr, hn, rfl, rfl, rfl⟩
    rw [e] at hf
    simp at hf
  | f + 1, s, hf, h, hr, hn => by
    unfold dlvM
    split
    · rename_i t num x l e
      have hfr := h.dat.fr ⟨t, num, .dat x⟩ (by rw [e]; simp)
      have hxo : okG P.d.length x := hfr.2.2.2.2.2
      split
      · rename_i hts
        have hS : SI P t0 { s with dat := { s.dat with fr := l } } n lr lw lt := ⟨h.dat.tail e, h.rep, h.wt, h.ws, h.du, h.sn, h.k, h.o0, h.o1, h.en, h.kn⟩
        obtain ⟨j1, j2, j3, j4, j5, j6, j7⟩ := dlv1_ok hP hS hr hn hxo ⟨ht, by have := hfr.2.1; have := (chkCt_rg hP.hc).2.2; have := hP.h2; dsimp only at *; omega⟩ hl
        have hlen : (dlv1 P { s with dat := { s.dat with fr := l } } x).dat.fr.length ≤ f := by
          rw [j6];rw [e] at hf
          simp at hf
          exact hf
        obtain ⟨i1, i2, i3, i4, i5, i6⟩ := dlvM_ok hP ht hl f hlen j1 j2 j3
        exact ⟨i1, i2, i3, i4.trans j4, i5.trans j5, i6.trans j7⟩
      · rename_i hts
        refine ⟨⟨h.dat.up (fun g l' e' => ?_), h.rep, h.wt, h.ws, h.du, h.sn, h.k, h.o0, h.o1, h.en, h.kn⟩, hr, hn, rfl, rfl, rfl⟩
        rw [e] at e'
        obtain ⟨rfl, _⟩ := List.cons.inj e'
        exact fun hh => hts (by dsimp only at hh; omega)
    · rename_i hno
      refine ⟨⟨h.dat.up (fun g l' e' => ?_), h.rep, h.wt, h.ws, h.du, h.sn, h.k, h.o0, h.o1, h.en, h.kn⟩, hr, hn, rfl, rfl, rfl⟩
      obtain ⟨ga, gn, gg⟩ := g
      cases gg with
      | dat x => exact absurd e' (hno ga gn x l')
      | rep sr C =>
        have := (h.dat.fr ⟨ga, gn, .rep sr C⟩ (by rw [e']; simp)).2.2.2.2
        exact absurd this.1 (by simp)
theorem timed_ok {rate : Int} {n : Nat} (hr : 1 ≤ rate) : ∀ (G : List Sg) (t : Int), (∀ x ∈ G, okG n x) →
    (∀ x ∈ timed rate t G, t + 1 ≤ x.1 ∧ x.1 ≤ endG rate t G ∧ okG n x.2) ∧ (timed rate t G).Pairwise (fun x y => x.1 < y.1)
  | [], t, _ => ⟨fun x hx => absurd hx (by simp [timed]), List.Pairwise.nil⟩
  | x :: G, t, h => by
    obtain ⟨h1, h2, h3, _⟩ := h x (by simp)
    have g1 := segT_pos hr (len := ((x.b - x.a : Nat) : Int)) (by omega)
    obtain ⟨i1, i2⟩ := timed_ok hr G (t + segT rate ((x.b - x.a : Nat) : Int)) (fun y hy => h y (by simp [hy]))
    have hE := (endG_le hr (G := G) (t := t + segT rate ((x.b - x.a : Nat) : Int)) (fun y hy => h y (by simp [hy]))).1
    refine ⟨fun y hy => ?_, List.pairwise_cons.2 ⟨fun y hy => ?_, i2⟩⟩
    · rcases List.mem_cons.1 hy with rfl | hy
      · exact ⟨by dsimp only; omega, by show _ ≤ endG rate _ G; dsimp only; omega, h x (by simp)⟩
      · obtain ⟨j1, j2, j3⟩ := i1 y hy
        exact ⟨by omega, j2, j3⟩
    · have := (i1 y hy).1
      dsimp only
      omega
theorem sendM_ok {P : Par} {t0 : Int} (hP : okP P t0) {K : Iv} {s : Sd} {t : Int} {G : List Sg} (hb : P.c.s ≤ s.busy ∧ s.busy ≤ P.e) (hr : 1 ≤ s.sr ∧ s.sr ≤ s.busy) (hk : InI P.d.length s.K) (hks : subI s.K K) (hw : s.K ≠ [((0 : Int), (P.d.length : Int))]) (hG : ∀ x ∈ G, okG P.d.length x) (hne : G ≠ []) (ht : s.busy ≤ t) :
    SdOK P K (sendM P s t (s.sr + 1) G).1 ∧ (sendM P s t (s.sr + 1) G).1.K = s.K ∧ (∀ x ∈ (sendM P s t (s.sr + 1) G).2, t + 1 ≤ x.1 ∧ x.1 ≤ (sendM P s t (s.sr + 1) G).1.busy ∧ okG P.d.length x.2) ∧ (sendM P s t (s.sr + 1) G).2.Pairwise (fun x y => x.1 < y.1) ∧ ((sendM P s t (s.sr + 1) G).1.st = 1 → t + 1 ≤ (sendM P s t (s.sr + 1) G).1.due) ∧ (sendM P s t (s.sr + 1) G).1.st ≠ 2 := by
  have hcr := chkCt_rg hP.hc
  have hl := List.length_pos_iff.2 hne
  have hE := (endG_le hcr.1.1 (G := G) (t := t) hG).1
  unfold sendM
  split
  · exact ⟨⟨hb, hr, hk, hks, .inr (.inr ⟨rfl, rfl⟩)⟩, rfl, fun x hx => (by cases hx), List.Pairwise.nil, fun h => by simp at h, by simp⟩
  · rename_i hle
    obtain ⟨i1, i2⟩ := timed_ok hcr.1.1 G t hG
    exact ⟨⟨⟨by dsimp only; omega, by dsimp only; omega⟩, ⟨by dsimp only; omega, by dsimp only; omega⟩, hk, hks, .inl ⟨rfl, hw, rfl⟩⟩, rfl, i1, i2, fun _ => by dsimp only; omega, by simp⟩
theorem batM_ok {P : Par} {t0 : Int} (hP : okP P t0) {K : Iv} {sr : Int} (hk : InI P.d.length K) (hw : K ≠ [((0 : Int), (P.d.length : Int))]) (hr : 0 ≤ sr ∧ sr ≤ 1099511627776) :
    (∀ x ∈ bat sr (pcsAll (missI P.d.length K)), okG P.d.length x) ∧ bat sr (pcsAll (missI P.d.length K)) ≠ [] := by
  have hn := hP.n1
  have hM := (missI_ok hk (by omega)).1
  refine ⟨bat_ok hM hr.1 hr.2, fun e => ?_⟩
  have h1 := pcsAll_ne hM.1 (fun x hx => (hM.at x hx).1) (missI_ne hk (by omega) hw)
  have h2 := bat_len sr (pcsAll (missI P.d.length K))
  rw [e] at h2;exact h1 (List.eq_nil_of_length_eq_zero h2.symm)
theorem hearM_ok {P : Par} {t0 : Int} (hP : okP P t0) {K : Iv} {s : Sd} {t sr : Int} {C : Iv} (h : SdOK P K s) (hC : InI P.d.length C) (hCs : subI C K) (ht : s.busy ≤ t) :
    SdOK P K (hearM P s t sr C).1 ∧ (∀ x ∈ (hearM P s t sr C).2, t + 1 ≤ x.1 ∧ x.1 ≤ (hearM P s t sr C).1.busy ∧ okG P.d.length x.2) ∧ (hearM P s t sr C).2.Pairwise (fun x y => x.1 < y.1) ∧ ((hearM P s t sr C).1.st = 1 → (hearM P s t sr C).1 = s ∨ t + 1 ≤ (hearM P s t sr C).1.due) ∧ (s.K = [((0 : Int), (P.d.length : Int))] → (hearM P s t sr C).1 = s) := by
  have hcr := chkCt_rg hP.hc
  have h2 := hP.h2
  unfold hearM
  split
  · exact ⟨h, fun x hx => (by cases hx), List.Pairwise.nil, fun _ => .inl rfl, fun _ => rfl⟩
  rename_i hst
  have hs1 : s.st = 1 := Decidable.byContradiction (fun h => hst (.inl h))
  have hKw : s.K ≠ [((0 : Int), (P.d.length : Int))] := by
    rcases h.st with ⟨_, h1, _⟩ | ⟨h1, _⟩ | ⟨h1, _⟩
    · exact h1
    · omega
    · omega
  obtain ⟨u1, u2⟩ := unionI_in h.k hC
  have hus : subI (unionI s.K C) K := fun x hx => by
    rw [u2, Bool.or_eq_true] at hx;exact hx.elim (h.ks x) (hCs x)
  have hb := h.b
  have hr := h.r
  split
  · rename_i hw
    exact ⟨⟨hb, hr, u1, hus, .inr (.inl ⟨rfl, hw, rfl⟩)⟩, fun x hx => (by cases hx), List.Pairwise.nil, fun h => by simp at h, fun h => absurd h hKw⟩
  · rename_i hw
    obtain ⟨b1, b2⟩ := batM_ok hP (sr := s.sr + 1) u1 hw (by omega)
    obtain ⟨i1, i2, i3, i4, i5, i6⟩ := sendM_ok hP (K := K) (s := { s with K := unionI s.K C }) (t := t) (G := batM P { s with K := unionI s.K C }) hb hr u1 hus hw b1 b2 ht
    exact ⟨i1, i3, i4, fun h => .inr (i5 h), fun h => absurd h hKw⟩
theorem lsn1_ok {P : Par} {t0 : Int} (hP : okP P t0) {s : Ss} {ld lr lt n sr : Int} {C : Iv} (h : SI P t0 s ld lr (n + 1) lt) (hn : s.now = n) (hC : InI P.d.length C) (hCs : subI C s.K) (hlt : lt ≤ n + 1) :
    SI P t0 (lsn1 P s sr C) ld lr (n + 1) lt ∧ (lsn1 P s sr C).now = n ∧ (lsn1 P s sr C).K = s.K ∧ (lsn1 P s sr C).rcvd = s.rcvd ∧ (lsn1 P s sr C).rep = s.rep ∧ (lsn1 P s sr C).out0 = s.out0 := by
  unfold lsn1
  split
  · exact ⟨h, hn, rfl, rfl, rfl, rfl⟩
  rename_i hb
  obtain ⟨i1, i2, i3, i4, i5⟩ := hearM_ok hP (t := s.now) (sr := sr) h.sn hC hCs (by omega)
  have hw : s.wait = [] := by
    cases e : s.wait with
    | nil => rfl
    | cons x w =>
      have := h.wt x (by rw [e]; simp)
      omega
  simp only
  generalize hearM P s.snd s.now sr C = r at i1 i2 i3 i4 i5
  have hkn : s.kn = true → r.1.K = [((0 : Int), (P.d.length : Int))] := fun hk => by rw [i5 (h.kn hk)]; exact h.kn hk
  have hS : ∀ (b : Bool) (a : Int), (b = true → r.1.K = [((0 : Int), (P.d.length : Int))]) → SI P t0 { s with snd := r.1, wait := s.wait ++ r.2, kn := b, knAt := a } ld lr (n + 1) lt := fun b a hb2 =>
    ⟨h.dat, h.rep, fun x hx => by
      dsimp only at hx ⊢
      rw [hw, List.nil_append] at hx;rw [← hn]
      exact i2 x hx, by dsimp only; rw [hw, List.nil_append]; exact i3, fun hwt => by
      unfold waitsM at hwt;simp only [Bool.and_eq_true, decide_eq_true_eq] at hwt
      rcases i4 hwt.1 with h4 | h4
      · dsimp only
        rw [h4]
        exact h.du (by unfold waitsM; simp only [Bool.and_eq_true, decide_eq_true_eq]; exact ⟨by rw [← h4]; exact hwt.1, hwt.2⟩)
      · dsimp only
        omega, i1, h.k, h.o0, h.o1, h.en, hb2⟩
  split
  · rename_i hc
    refine ⟨hS true s.now (fun _ => ?_), hn, rfl, rfl, rfl, rfl⟩
    rcases i1.st with ⟨g, _⟩ | ⟨_, g, _⟩ | ⟨g, _⟩
    · have := hc.2; omega
    · exact g
    · have := hc.2; omega
  · exact ⟨hS s.kn s.knAt hkn, hn, rfl, rfl, rfl, rfl⟩
theorem lsnM_ok {P : Par} {t0 : Int} (hP : okP P t0) {ld lt n : Int} (hlt : lt ≤ n + 1) : ∀ (f : Nat) {s : Ss}, s.rep.fr.length ≤ f → SI P t0 s ld n (n + 1) lt → s.now = n →
    SI P t0 (lsnM P f s) ld (n + 1) (n + 1) lt ∧ (lsnM P f s).now = n ∧ (lsnM P f s).K = s.K ∧ (lsnM P f s).rcvd = s.rcvd ∧ (lsnM P f s).out0 = s.out0
  | 0, s, hf, h, hn => by
    refine ⟨⟨h.dat, h.rep.up (fun f l e => ?_), h.wt, h.ws, h.du, h.sn, h.k, h.o0, h.o1, h.en, h.kn⟩, hn, rfl, rfl, rfl⟩
    rw [e] at hf
    simp at hf
  | f + 1, s, hf, h, hn => by
    unfold lsnM
    split
    · rename_i t num sr C l e
      have hfr := h.rep.fr ⟨t, num, .rep sr C⟩ (by rw [e]; simp)
      obtain ⟨_, hC, hCs, _⟩ := hfr.2.2.2.2
      split
      · rename_i hts
        have hS : SI P t0 { s with rep := { s.rep with fr := l } } ld n (n + 1) lt := ⟨h.dat, h.rep.tail e, h.wt, h.ws, h.du, h.sn, h.k, h.o0, h.o1, h.en, h.kn⟩
        obtain ⟨j1, j2, j3, j4, j5, j6⟩ := lsn1_ok hP (sr := sr) hS hn hC hCs hlt
        have hlen : (lsn1 P { s with rep := { s.rep with fr := l } } sr C).rep.fr.length ≤ f := by
          rw [j5];rw [e] at hf
          simp at hf
          exact hf
        obtain ⟨i1, i2, i3, i4, i5⟩ := lsnM_ok hP hlt f hlen j1 j2
        exact ⟨i1, i2, i3.trans j3, i4.trans j4, i5.trans j6⟩
      · rename_i hts
        refine ⟨⟨h.dat, h.rep.up (fun g l' e' => ?_), h.wt, h.ws, h.du, h.sn, h.k, h.o0, h.o1, h.en, h.kn⟩, hn, rfl, rfl, rfl⟩
        rw [e] at e'
        obtain ⟨rfl, _⟩ := List.cons.inj e'
        exact fun hh => hts (by dsimp only at hh; omega)
    · rename_i hno
      refine ⟨⟨h.dat, h.rep.up (fun g l' e' => ?_), h.wt, h.ws, h.du, h.sn, h.k, h.o0, h.o1, h.en, h.kn⟩, hn, rfl, rfl, rfl⟩
      obtain ⟨ga, gn, gg⟩ := g
      cases gg with
      | rep sr C => exact absurd e' (hno ga gn sr C l')
      | dat x =>
        have := (h.rep.fr ⟨ga, gn, .dat x⟩ (by rw [e']; simp)).2.2.2.2
        exact absurd this.1 (by simp)
theorem expM_ok {P : Par} {t0 : Int} (hP : okP P t0) {s : Ss} {ld lr n : Int} (h : SI P t0 s ld lr (n + 1) n) (hn : s.now = n) :
    SI P t0 (expM P s) ld lr (n + 1) (n + 1) ∧ (expM P s).now = n ∧ (expM P s).K = s.K ∧ (expM P s).rcvd = s.rcvd ∧ (expM P s).out0 = s.out0 := by
  have hcr := chkCt_rg hP.hc
  have h2 := hP.h2
  unfold expM
  split
  · rename_i hc
    refine ⟨⟨h.dat, h.rep, h.wt, h.ws, fun hw => ?_, h.sn, h.k, h.o0, h.o1, h.en, h.kn⟩, hn, rfl, rfl, rfl⟩
    have := h.du hw
    rcases hc with hc | hc
    · rw [hc] at hw; cases hw
    · omega
  rename_i hc
  have hwt : waitsM s = true := by
    cases hw : waitsM s with
    | true => rfl
    | false => exact absurd (.inl hw) hc
  have hdue : s.snd.due = s.now := Decidable.byContradiction (fun h => hc (.inr h))
  have hst : s.snd.st = 1 := by
    unfold waitsM at hwt;simp only [Bool.and_eq_true, decide_eq_true_eq] at hwt;exact hwt.1
  obtain ⟨hKw, hdu⟩ : s.snd.K ≠ [((0 : Int), (P.d.length : Int))] ∧ s.snd.due = s.snd.busy + 2 * P.c.g + 1 := by
    rcases h.sn.st with ⟨_, g⟩ | ⟨g, _⟩ | ⟨g, _⟩
    · exact g
    · omega
    · omega
  have hw : s.wait = [] := by
    cases e : s.wait with
    | nil => rfl
    | cons x w =>
      have := h.wt x (by rw [e]; simp)
      omega
  have hb := h.sn.b
  have hr := h.sn.r
  obtain ⟨b1, b2⟩ := batM_ok hP (sr := s.snd.sr + 1) h.sn.k hKw (by omega)
  have hl := List.length_pos_iff.2 b2
  have hdr : (batM P s.snd).drop ((batM P s.snd).length - 1) ≠ [] := fun e => by
    have h3 := List.drop_eq_nil_iff.1 e
    have h4 : 0 < (batM P s.snd).length := hl
    omega
  obtain ⟨i1, i2, i3, i4, i5, i6⟩ := sendM_ok hP (K := s.K) (s := s.snd) (t := s.now) (G := (batM P s.snd).drop ((batM P s.snd).length - 1)) hb hr h.sn.k h.sn.ks hKw (fun x hx => b1 x (List.mem_of_mem_drop hx)) hdr (by omega)
  simp only
  have ew : waitM P s.snd s.now = sendM P s.snd s.now (s.snd.sr + 1) ((batM P s.snd).drop ((batM P s.snd).length - 1)) := rfl
  rw [ew]
  generalize sendM P s.snd s.now (s.snd.sr + 1) ((batM P s.snd).drop ((batM P s.snd).length - 1)) = r at i1 i2 i3 i4 i5
  refine ⟨⟨h.dat, h.rep, fun x hx => ?_, ?_, fun hw2 => ?_, i1, h.k, h.o0, h.o1, h.en, fun hk => by rw [i2]; exact h.kn hk⟩, by first | exact hn | trivial, by first | rfl | trivial, by first | rfl | trivial, by first | rfl | trivial⟩
  · dsimp only at hx ⊢
    rw [hw, List.nil_append] at hx;rw [← hn];exact i3 x hx
  · dsimp only
    rw [hw, List.nil_append];exact i4
  · unfold waitsM at hw2
    simp only [Bool.and_eq_true, decide_eq_true_eq] at hw2
    have := i5 hw2.1
    dsimp only
    omega
theorem minO_in {a b : Option Int} {t : Int} (h : minO a b = some t) : a = some t ∨ b = some t := by
  cases a with
  | none => exact .inr h
  | some a =>
    cases b with
    | none => exact .inl h
    | some b =>
      by_cases hb : b < a
      · have e : minO (some a) (some b) = some b := if_pos hb
        exact .inr (e ▸ h)
      · have e : minO (some a) (some b) = some a := if_neg hb
        exact .inl (e ▸ h)
theorem minO_all {a b : Option Int} {t : Int} (h : ∀ x, minO a b = some x → t ≤ x) : (∀ x, a = some x → t ≤ x) ∧ (∀ x, b = some x → t ≤ x) := by
  cases a with
  | none => exact ⟨fun x hx => (by cases hx), fun x hx => h x hx⟩
  | some a =>
    cases b with
    | none => exact ⟨fun x hx => h x hx, fun x hx => (by cases hx)⟩
    | some b =>
      by_cases hb : b < a
      · have h1 := h b (by unfold minO; exact if_pos hb)
        exact ⟨fun x hx => by have := Option.some.inj hx; omega, fun x hx => by have := Option.some.inj hx; omega⟩
      · have h1 := h a (by unfold minO; exact if_neg hb)
        exact ⟨fun x hx => by have := Option.some.inj hx; omega, fun x hx => by have := Option.some.inj hx; omega⟩
theorem clrM_ok {P : Par} {t0 : Int} {s : Ss} {ld lr lw lt : Int} (h : SI P t0 s ld lr lw lt) : SI P t0 (clrM s) ld lr lw lt ∧ (clrM s).now = s.now ∧ (clrM s).K = s.K ∧ (clrM s).rcvd = s.rcvd ∧ (clrM s).out0 = s.out0 := by
  unfold clrM
  split
  · exact ⟨⟨h.dat, h.rep, fun x hx => absurd hx (by simp), List.Pairwise.nil, h.du, h.sn, h.k, h.o0, h.o1, h.en, h.kn⟩, rfl, rfl, rfl, rfl⟩
  · exact ⟨h, rfl, rfl, rfl, rfl⟩
theorem ChOK.ge {lo hi : Int} {n : Nat} {K : Iv} {isd : Bool} {c : Ch} (h : ChOK lo hi n K isd c) {t : Int} (ht : ∀ x, c.fr.head?.map (·.arr) = some x → t ≤ x) : ChOK t hi n K isd c := by
  refine ⟨fun y hy => ?_, h.srt, h.lst, h.len⟩
  have hy2 := h.fr y hy
  cases e : c.fr with
  | nil => rw [e] at hy; cases hy
  | cons f l =>
    have hf := ht f.arr (by rw [e]; rfl)
    have hs := h.srt
    rw [e] at hs hy
    have : f.arr ≤ y.arr := by
      rcases List.mem_cons.1 hy with rfl | hy
      · exact Int.le_refl _
      · exact (List.pairwise_cons.1 hs).1 y hy
    exact ⟨by omega, hy2.2⟩
theorem next_ok {P : Par} {t0 : Int} (hP : okP P t0) {s : Ss} {u t : Int} (h : SI P t0 s u u u u) (e : nextM s = some t) : u ≤ t ∧ t ≤ 2199023255552 ∧ SI P t0 s t t t t := by
  have hcr := chkCt_rg hP.hc
  have h2 := hP.h2
  have hb := h.sn.b
  unfold nextM at e
  have hall : ∀ x, minO (minO (minO (s.wait.head?.map (·.1)) (s.dat.fr.head?.map (·.arr))) (s.rep.fr.head?.map (·.arr))) (if waitsM s then some s.snd.due else none) = some x → t ≤ x := fun x hx => by rw [e] at hx; have := Option.some.inj hx; omega
  obtain ⟨g1, g2⟩ := minO_all hall
  obtain ⟨g3, g4⟩ := minO_all g1
  obtain ⟨g5, g6⟩ := minO_all g3
  have hdue : waitsM s = true → s.snd.due = s.snd.busy + 2 * P.c.g + 1 := fun hw => by
    unfold waitsM at hw;simp only [Bool.and_eq_true, decide_eq_true_eq] at hw
    rcases h.sn.st with ⟨_, _, g⟩ | ⟨g, _⟩ | ⟨g, _⟩
    · exact g
    · omega
    · omega
  have hbd : u ≤ t ∧ t ≤ 2199023255552 := by
    rcases minO_in e with e | e
    · rcases minO_in e with e | e
      · rcases minO_in e with e | e
        · cases e3 : s.wait with
          | nil => rw [e3] at e; cases e
          | cons y w =>
            have hy := h.wt y (by rw [e3]; simp)
            rw [e3] at e
            have := Option.some.inj (show some y.1 = some t from e)
            omega
        · cases e3 : s.dat.fr with
          | nil => rw [e3] at e; cases e
          | cons y w =>
            have hy := h.dat.fr y (by rw [e3]; simp)
            rw [e3] at e
            have := Option.some.inj (show some y.arr = some t from e)
            omega
      · cases e3 : s.rep.fr with
        | nil => rw [e3] at e; cases e
        | cons y w =>
          have hy := h.rep.fr y (by rw [e3]; simp)
          rw [e3] at e
          have := Option.some.inj (show some y.arr = some t from e)
          omega
    · split at e
      · rename_i hw
        have h3 := h.du hw
        have h4 := hdue hw
        have := Option.some.inj e
        omega
      · cases e
  refine ⟨hbd.1, hbd.2, ⟨h.dat.ge g6, h.rep.ge g4, fun x hx => ?_, h.ws, fun hw => g2 _ (if_pos hw), h.sn, h.k, h.o0, h.o1, h.en, h.kn⟩⟩
  have hx2 := h.wt x hx
  refine ⟨?_, hx2.2⟩
  cases e3 : s.wait with
  | nil => rw [e3] at hx; cases hx
  | cons y w =>
    have hy := g5 y.1 (by rw [e3]; rfl)
    have hs := h.ws
    rw [e3] at hs hx
    rcases List.mem_cons.1 hx with rfl | hx
    · exact hy
    · have := (List.pairwise_cons.1 hs).1 x hx
      omega
theorem begin_ok {P : Par} {t0 : Int} (hP : okP P t0) (hE : endG P.c.r t0 (bat 1 (pcsAll (missI P.d.length []))) ≤ P.e) : SI P t0 (beginM P t0) (t0 + 1) (t0 + 1) (t0 + 1) (t0 + 1) ∧ rcOK P (beginM P t0) := by
  have hcr := chkCt_rg hP.hc
  have hcs := chkCt_se hP.hc
  have h0 := hP.h0
  have hn := hP.n1
  have hw : ([] : Iv) ≠ [((0 : Int), (P.d.length : Int))] := by simp
  obtain ⟨b1, b2⟩ := batM_ok hP (sr := 1) (InI.nil _) hw (by omega)
  obtain ⟨i1, i2⟩ := timed_ok hcr.1.1 _ t0 b1
  have hl := List.length_pos_iff.2 b2
  have hE2 := (endG_le hcr.1.1 (t := t0) b1).1
  unfold beginM;simp only
  generalize bat 1 (pcsAll (missI (P.d.length : Int) [])) = G at *
  refine ⟨⟨ChOK.nil _ _ _ _ _, ChOK.nil _ _ _ _ _, i1, i2, fun _ => by dsimp only; omega, ⟨⟨by dsimp only; omega, hE⟩, ⟨by dsimp only; omega, by dsimp only; omega⟩, InI.nil _, subI.refl _, .inl ⟨rfl, hw, rfl⟩⟩, InI.nil _, fun x hx => absurd hx (by simp), fun x hx => absurd hx (by simp), by simp, fun h => by simp at h⟩, ?_⟩
  unfold rcOK
  simp
end Go.Step
namespace Go.Proofs.YtahbngakckbenaaGreatDoor
open Go.Eng Go.Step
set_option maxRecDepth 100000
set_option maxHeartbeats 64000000
theorem sndWait_spec {ρ:PH} {c:Ct} {se e busy sr due t0:Int} {d:List UInt8} {K:Iv} {p:Option Addr} {k:Nat} (hv:SpAt ρ (.slice p K.length k) K) (hc:chkCt c=0) (hse:0≤se∧se≤1099511627776) (hn1:1≤d.length) (hn:d.length≤990) (hb:c.s≤busy∧busy≤e∧e≤c.e) (hsr:1≤sr∧sr+1≤1099511627776) (hK:InI d.length K) (hw:K≠[((0:Int),(d.length:Int))]) (hdue:due=busy+2*c.g+1) (ht:due≤t0∧t0≤2199023255552) :
  Eng.Spec Tryz.prog (fv 190) [.agg #[int c.f,int c.t,int c.s,int c.e,int c.r,int c.g,int c.l,int se,str d,int e,int busy,int sr,.slice p K.length k,int due,int 1],int t0] [ρ] [] (fun r H'=>(e<(endG c.r t0 ((bat (sr+1) (pcsAll (missI d.length K))).drop ((bat (sr+1) (pcsAll (missI d.length K))).length-1)))∧r=.tuple #[.agg #[int c.f,int c.t,int c.s,int c.e,int c.r,int c.g,int c.l,int se,str d,int e,int busy,int sr,.slice p K.length k,int 0,int 3],.slice none 0 0,int 0]∧H'=[]) ∨
   ((endG c.r t0 ((bat (sr+1) (pcsAll (missI d.length K))).drop ((bat (sr+1) (pcsAll (missI d.length K))).length-1)))≤e∧∃ p4 c4 σ4,r=.tuple #[.agg #[int c.f,int c.t,int c.s,int c.e,int c.r,int c.g,int c.l,int se,str d,int e,int (endG c.r t0 ((bat (sr+1) (pcsAll (missI d.length K))).drop ((bat (sr+1) (pcsAll (missI d.length K))).length-1))),int (sr+1),.slice p K.length k,int ((endG c.r t0 ((bat (sr+1) (pcsAll (missI d.length K))).drop ((bat (sr+1) (pcsAll (missI d.length K))).length-1)))+2*c.g+1),int 1],.slice p4 ((bat (sr+1) (pcsAll (missI d.length K))).drop ((bat (sr+1) (pcsAll (missI d.length K))).length-1)).length c4,int 0]∧OwnS 39 9 (.slice p4 (timed c.r t0 ((bat (sr+1) (pcsAll (missI d.length K))).drop ((bat (sr+1) (pcsAll (missI d.length K))).length-1))).length c4) (timed c.r t0 ((bat (sr+1) (pcsAll (missI d.length K))).drop ((bat (sr+1) (pcsAll (missI d.length K))).length-1))).length ((timed c.r t0 ((bat (sr+1) (pcsAll (missI d.length K))).drop ((bat (sr+1) (pcsAll (missI d.length K))).length-1))).flatMap (encO se d)) σ4∧H'=[σ4])):=by
 have hcs:=chkCt_se hc
 have hcg:=chkCt_rg hc
 have hck:=sndChk_spec (due:=due) (st:=1) hv hc hse hn1 hn hb ⟨hsr.1,by omega⟩ hK (.inl ⟨rfl,hw,hdue⟩)
 have hba:=sndBatch_spec (c:=c) (se:=se) (e:=e) (busy:=busy) (sr:=sr) (due:=due) (st:=1) hv hn1 hn hK hw hse (by omega)
 have hMo:=(missI_ok hK (by omega)).1
 have hG0:=bat_ok (sr:=sr+1) hMo (by omega) (by omega)
 obtain ⟨x,hx,hxs⟩:=bat_last (sr:=sr+1) (pcsAll_ne hMo.1 (fun x hx=>(hMo.at x hx).1) (missI_ne hK (by omega) hw))
 have hbl:(bat (sr+1) (pcsAll (missI d.length K))).length≤1000000:=by rw [bat_len]; have:=pcsAll_len hMo (by omega); omega
 have hG:∀ x∈((bat (sr+1) (pcsAll (missI d.length K))).drop ((bat (sr+1) (pcsAll (missI d.length K))).length-1)),okG d.length x:=fun x hx=>hG0 x (List.mem_of_mem_drop hx)
 have hpos:0<(bat (sr+1) (pcsAll (missI d.length K))).length:=by
  rcases Nat.eq_zero_or_pos (bat (sr+1) (pcsAll (missI d.length K))).length with h|h
  ·rw [List.eq_nil_of_length_eq_zero h] at hx; simp at hx
  ·exact h
 have hxd:((bat (sr+1) (pcsAll (missI d.length K))).drop ((bat (sr+1) (pcsAll (missI d.length K))).length-1))[((bat (sr+1) (pcsAll (missI d.length K))).drop ((bat (sr+1) (pcsAll (missI d.length K))).length-1)).length-1]?=some x:=by
  rw [List.getElem?_drop,List.length_drop]
  rw [show (bat (sr+1) (pcsAll (missI d.length K))).length-1+((bat (sr+1) (pcsAll (missI d.length K))).length-((bat (sr+1) (pcsAll (missI d.length K))).length-1)-1)=(bat (sr+1) (pcsAll (missI d.length K))).length-1 from by omega]
  exact hx
 have hdl:((bat (sr+1) (pcsAll (missI d.length K))).drop ((bat (sr+1) (pcsAll (missI d.length K))).length-1)).length≤1000000:=by rw [List.length_drop]; omega
 have hsd0:=fun {σ:PH} {v:Value} (hv:SlE (encG se d) 8 σ v ((bat (sr+1) (pcsAll (missI d.length K))).drop ((bat (sr+1) (pcsAll (missI d.length K))).length-1)))=>sndSend_spec (c:=c) (se:=se) (e:=e) (busy:=busy) (sr:=sr) (due:=due) (st:=1) (t0:=t0) (K:=K) (p:=p) (k:=k) hv hG hn hse hc hb.2.2 (by omega) hdl hxd
 rw [hxs] at hsd0
 have hdn:((bat (sr+1) (pcsAll (missI d.length K))).drop ((bat (sr+1) (pcsAll (missI d.length K))).length-1)).length=(bat (sr+1) (pcsAll (missI d.length K))).length-((bat (sr+1) (pcsAll (missI d.length K))).length-1):=List.length_drop
 generalize hGG0:(bat (sr+1) (pcsAll (missI d.length K)))=G0 at *
 generalize hGG:G0.drop (G0.length-1)=G at *
 generalize endG c.r t0 G=E at *
 refine spec_in (cap:=[]) Tryz.func190 rfl rfl Tryz.ntmps190 rfl envZ (fun N β=>?_)
 refine Aa ?_;refine BK (BM rfl) rfl rfl rfl ?_;rintro _ _ ⟨b2,rfl,rfl⟩;refine AZ (ρ:=sng b2 _) takeZ ?_
 have cs:=rdB b2 83 [int c.f,int c.t,int c.s,int c.e,int c.r,int c.g,int c.l,int se,str d,int e,int busy,int sr,.slice p K.length k,int due,int 1]
 have cs0:=rdC cs 0
 have cs1:=rdC cs 1
 have cs2:=rdC cs 2
 have cs3:=rdC cs 3
 have cs4:=rdC cs 4
 have cs5:=rdC cs 5
 have cs6:=rdC cs 6
 have cs7:=rdC cs 7
 have cs8:=rdC cs 8
 have cs9:=rdC cs 9
 have cs10:=rdC cs 10
 have cs11:=rdC cs 11
 have cs12:=rdC cs 12
 have cs13:=rdC cs 13
 have cs14:=rdC cs 14
 refine A6 ?_; rintro _ _ ⟨b,rfl,rfl⟩;refine Ac7 ?_
 revert b; intro b4
 refine AW hck rfl rfl rdZ rfl rfl ?_;rintro _ rfl;refine Abh ?_;refine Aba ?_;refine Abh ?_;refine Aah ?_;refine Aae ?_
 focus ((refine AW (sndIn_spec (by omega) (by omega)) rfl rfl rdZ rfl rfl ?_; rintro _ rfl))
 refine Abm ?_;refine Aaz ?_;refine B9 hba rfl rfl rdZ rfl rfl ?_;rintro _ σ1 ⟨p1,c1,rfl,hO1⟩
 obtain ⟨_,_,e0,hcap⟩:=hO1.formC
 simp only [Value.slice.injEq] at e0
 obtain ⟨rfl,_,rfl⟩:=e0
 have hsl:=slE_lo (encG_len se d) hO1.at hcap (i:=G0.length-1) (by omega) rfl
 rw [hGG] at hsl
 have hsd:=hsd0 hsl
 refine Aaa ?_;refine AD ?_
 refine C3 (X:=Nat × List Value × Value × List PH) [4] (fun z=>(e<E∧z.2.1=[int c.f,int c.t,int c.s,int c.e,int c.r,int c.g,int c.l,int se,str d,int e,int busy,int sr,.slice p K.length k,int 0,int 3]∧z.2.2.1=.slice none 0 0∧z.2.2.2=[])∨(E≤e∧z.2.1=[int c.f,int c.t,int c.s,int c.e,int c.r,int c.g,int c.l,int se,str d,int e,int E,int (sr+1),.slice p K.length k,int (E+2*c.g+1),int 1]∧∃ p4 c4 σ4,z.2.2.1=.slice p4 G.length c4∧OwnS 39 9 (.slice p4 (timed c.r t0 G).length c4) (timed c.r t0 G).length ((timed c.r t0 G).flatMap (encO se d)) σ4∧z.2.2.2=[σ4])) (fun z=>[(8,.pointer (some ⟨z.1,0,none⟩)),(9,z.2.2.1)]) (fun z=>sng z.1 (.cells z.2.1.toArray 83 (0,0))::sng b4 (.cells #[int 0,int 0,int 0,int 0,int 0,int 0,int 0,int 0,str [],int 0,int 0,int 0,.slice none 0 0,int 0,int 0] 83 (0,0))::z.2.2.2) pickZ ?_ ?_
 ·refine BD (.q 0 (.q 1 (.q 2 (.q 3 (.q 4 (.q 5 (.q 6 (.q 7 (.l2 8 .e (.q 9 (.q 10 (.p 11 (.l 12 .e (.l 13 .b (.q 14 .nil)))))) 12 .e (.l 8 .e (.q 9 (.q 10 (.p 11 (.l 13 .b (.q 14 .nil))))))))))))))) [] rfl (by kernel_rfl) Sel.nil ?_
  repeat' (first
   | (refine AJ ?_)
   | (refine CT ?_)
   | (refine CW ?_)
   | (refine B8 ?_)
   | (refine GF ?_)
   | (refine C7 ?_)
   | (refine CZ ?_ ?_)
   | (refine BZ ?_; rintro _ _ ⟨b,rfl,rfl⟩)
   | fail)
  ·refine BO rfl hsd rfl rfl rdZ rfl rfl ?_
   rintro _ _ (⟨hlate,rfl,rfl⟩|⟨hok,p4,c4,σ4,rfl,hO4,rfl⟩)
   ·refine AJ ?_
    refine Aau ?_;refine BV ?_; rintro _ _ ⟨b,rfl,rfl⟩
    revert b; intro b8
    skip
    refine BL ?_;refine' CG rfl _ rfl rfl _ _
    rotate_left
    ·apply A9; exact rfl; exact rfl; exact takeZ; exact oneZ; exact rfl; exact rfl
    ·rintro _ _ ⟨_,rfl⟩ w hw; exact hw.sel Sel.nil
    rintro _ _ ⟨rfl,rfl⟩;refine Aam ?_
    skip
    exact BB (b8,[int c.f,int c.t,int c.s,int c.e,int c.r,int c.g,int c.l,int se,str d,int e,int busy,int sr,.slice p K.length k,int 0,int 3],.slice none 0 0,[]) (.inl ⟨hlate,rfl,rfl,rfl⟩) covZ selZ
   ·refine AJ ?_
    refine Aau ?_;refine BV ?_; rintro _ _ ⟨b,rfl,rfl⟩
    revert b; intro b8
    skip
    refine BL ?_;refine' CG rfl _ rfl rfl _ _
    rotate_left
    ·apply A9; exact rfl; exact rfl; exact takeZ; exact oneZ; exact rfl; exact rfl
    ·rintro _ _ ⟨_,rfl⟩ w hw; exact hw.sel Sel.nil
    rintro _ _ ⟨rfl,rfl⟩;refine Aam ?_
    skip
    exact BB (b8,[int c.f,int c.t,int c.s,int c.e,int c.r,int c.g,int c.l,int se,str d,int e,int E,int (sr+1),.slice p K.length k,int (E+2*c.g+1),int 1],.slice p4 G.length c4,[σ4]) (.inr ⟨hok,rfl,p4,c4,σ4,rfl,hO4,rfl⟩) covZ selZ
  ·revert b; intro b8
   refine BL (BO rfl hsd rfl rfl rdZ rfl rfl ?_);rintro _ _ (⟨hlate,rfl,rfl⟩|⟨hok,p4,c4,σ4,rfl,hO4,rfl⟩)
   ·refine AJ ?_
    refine Aa8 ?_;refine' CG rfl _ rfl rfl _ _
    rotate_left
    ·apply A9; exact rfl; exact rfl; exact takeZ; exact oneZ; exact rfl; exact rfl
    ·rintro _ _ ⟨_,rfl⟩ w hw; exact hw.sel Sel.nil
    rintro _ _ ⟨rfl,rfl⟩;refine Aam ?_
    skip
    exact BB (b8,[int c.f,int c.t,int c.s,int c.e,int c.r,int c.g,int c.l,int se,str d,int e,int busy,int sr,.slice p K.length k,int 0,int 3],.slice none 0 0,[]) (.inl ⟨hlate,rfl,rfl,rfl⟩) covZ selZ
   ·refine AJ ?_
    refine Aa8 ?_;refine' CG rfl _ rfl rfl _ _
    rotate_left
    ·apply A9; exact rfl; exact rfl; exact takeZ; exact oneZ; exact rfl; exact rfl
    ·rintro _ _ ⟨_,rfl⟩ w hw; exact hw.sel Sel.nil
    rintro _ _ ⟨rfl,rfl⟩;refine Aam ?_
    skip
    exact BB (b8,[int c.f,int c.t,int c.s,int c.e,int c.r,int c.g,int c.l,int se,str d,int e,int E,int (sr+1),.slice p K.length k,int (E+2*c.g+1),int 1],.slice p4 G.length c4,[σ4]) (.inr ⟨hok,rfl,p4,c4,σ4,rfl,hO4,rfl⟩) covZ selZ
 rintro ⟨b8,vs,u,Hl⟩ hz
 dsimp only at hz ⊢
 rcases hz with ⟨hlate,rfl,rfl,rfl⟩|⟨hok,rfl,p4,c4,σ4,rfl,hO4,rfl⟩
 ·refine AD ?_
  refine AA ?_;refine AV ?_;refine AB ?_;refine AX ?_; rintro _ _ ⟨rfl,rfl⟩;refine Aai ?_;exact AK (H':=[]) (resSEE (b1:=b4) (T:=83) (v1:=[int c.f,int c.t,int c.s,int c.e,int c.r,int c.g,int c.l,int se,str d,int e,int busy,int sr,.slice p K.length k,int 0,int 3]) rfl rfl rfl rfl rfl rfl (cells_own memZ)) rsubZ selZ (.inl ⟨hlate,rfl,rfl⟩)
 ·refine AD ?_
  refine AA ?_;refine AV ?_;refine AB ?_;refine AX ?_; rintro _ _ ⟨rfl,rfl⟩;refine Aai ?_;exact AK (H':=[σ4]) (resSEE (b1:=b4) (T:=83) (v1:=[int c.f,int c.t,int c.s,int c.e,int c.r,int c.g,int c.l,int se,str d,int e,int E,int (sr+1),.slice p K.length k,int (E+2*c.g+1),int 1]) rfl rfl rfl rfl rfl rfl (cells_own memZ)) rsubZ selZ (.inr ⟨hok,p4,c4,σ4,rfl,hO4,rfl⟩)
end Go.Proofs.YtahbngakckbenaaGreatDoor
namespace Go.Eng
variable {C:Cx} {R H:List PH} {L:Env} {dst:Option Tmp} {ty:TypeId} {pos:String} {aft:Array Edge} {g:Option (Nat × Bool)}
variable {x y:Operand} {xT yT:TypeId} {m n:Int} {k:IntKind}
theorem GH (h1:evalE L x=some (.int .i64 m)) (h2:evalE L y=some (.int .i64 n)) (hn:0<n) (hb:In64 (m.tdiv n)):Quiet C R H L ⟨dst,.binOp .quo xT x y yT,ty,pos,aft,g⟩ (.int .i64 (m.tdiv n)):=
  ⟨by intro c; simp,fun a w hx _=>by
    have e1:=hx x (by simp [Op.operands]) _ h1
    have e2:=hx y (by simp [Op.operands]) _ h2
    have hz:n≠0:=by omega
    simp [execOp,e1,e2,eqGuard,binOp,Op.intDiv,hz,wrap_in hb]⟩
theorem E6 (h1:evalE L x=some (.int k m)) (h2:evalE L y=some (.int k n)) (hn:0<n):Quiet C R H L ⟨dst,.binOp .rem xT x y yT,ty,pos,aft,g⟩ (.int k (m.tmod n)):=
  ⟨by intro c; simp,fun a w hx _=>by
    have e1:=hx x (by simp [Op.operands]) _ h1
    have e2:=hx y (by simp [Op.operands]) _ h2
    have hz:n≠0:=by omega
    simp [execOp,e1,e2,eqGuard,binOp,Op.intDiv,hz]⟩
theorem tdiv_bd {m n:Int} (hn:0<n) (hm:-9223372036854775808≤m∧m≤9223372036854775807):-9223372036854775808≤m.tdiv n∧m.tdiv n≤9223372036854775807:=by
  rcases Int.le_total 0 m with h|h
  · rw [Int.tdiv_eq_ediv_of_nonneg h]
    have h1:=Int.ediv_nonneg h (Int.le_of_lt hn)
    have h2:=Int.ediv_le_self n h
    omega
  · have e:m.tdiv n = -((-m).tdiv n):=by rw [Int.neg_tdiv,Int.neg_neg]
    rw [e,Int.tdiv_eq_ediv_of_nonneg (by omega)]
    have h1:=Int.ediv_nonneg (show 0 ≤ -m by omega) (Int.le_of_lt hn)
    have h2:=Int.ediv_le_self n (show 0 ≤ -m by omega)
    omega
theorem split_eq {m n:Int} (hn:0<n):(if m.tmod n<0 then m.tmod n+n else m.tmod n)=m % n∧(if m.tmod n<0 then m.tdiv n-1 else m.tdiv n)=m / n:=by
  have h1:=Int.mul_tdiv_add_tmod m n
  have h2:=Int.mul_ediv_add_emod m n
  have h3:=Int.emod_nonneg m (show n≠0 by omega)
  have h4:=Int.emod_lt_of_pos m hn
  have h5:=Int.tmod_lt_of_pos m hn
  have h6:-n<m.tmod n:=by
    rcases Int.le_total 0 m with h|h
    · have:=Int.tmod_nonneg n h
      omega
    · have e:m.tmod n = -((-m).tmod n):=by rw [Int.neg_tmod,Int.neg_neg]
      have:=Int.tmod_lt_of_pos (-m) hn
      omega
  have key:∀ a b r s:Int,n*a+r=n*b+s→0≤r→r<n→0≤s→s<n→a=b∧r=s:=fun a b r s e r0 r1 s0 s1=>by
    have e2:n*(a-b)=s-r:=by rw [Int.mul_sub]; omega
    have:a-b=0:=by
      rcases Int.lt_trichotomy (a-b) 0 with h|h|h
      · have:=Int.mul_le_mul_of_nonneg_left (show a-b ≤ -1 by omega) (Int.le_of_lt hn)
        omega
      · exact h
      · have:=Int.mul_le_mul_of_nonneg_left (show 1≤a-b by omega) (Int.le_of_lt hn)
        omega
    have hab:a=b:=by omega
    subst hab
    exact ⟨rfl,by omega⟩
  by_cases h:m.tmod n<0
  · rw [if_pos h,if_pos h]
    obtain ⟨k1,k2⟩:=key (m.tdiv n-1) (m / n) (m.tmod n+n) (m % n) (by rw [Int.mul_sub]; omega) (by omega) (by omega) h3 h4
    exact ⟨k2,k1⟩
  · rw [if_neg h,if_neg h]
    obtain ⟨k1,k2⟩:=key (m.tdiv n) (m / n) (m.tmod n) (m % n) (by omega) (by omega) (by omega) h3 h4
    exact ⟨k2,k1⟩
end Go.Eng
namespace Go.Eng
theorem ownS_sng {e:TypeId} {s n b:Nat} {cs:List Value} (hl:cs.length=n*s) (hn:n≤maxLen):OwnS e s (.slice (some ⟨b,0,none⟩) n n) n cs (sng b (.cells cs.toArray e (0,0))):=
  ⟨hl,.inr ⟨b,n,cs.toArray,rfl,rfl,Nat.le_refl _,hn,by simpa using hl,by rw [← hl]; simp⟩⟩
end Go.Eng
namespace Go.Proofs.YtahbngakckbenaaGreatDoor
open Go.Eng Go.Step
set_option maxRecDepth 100000
set_option maxHeartbeats 64000000
theorem lnkDelay_spec {n:Int} (h:1≤n∧n≤1048576):Ans Tryz.prog (fv 80) [int n] [] (fun r=>r=.bool true):=by
 obtain ⟨h1,h2⟩:=h
 refine spec_in (cap:=[]) Tryz.func80 rfl rfl Tryz.ntmps80 rfl envZ (fun N β=>?_)
 refine Ach ?_;refine DG ?_;refine Aak ?_;refine EA ?_;refine Abi ?_;exact BE ⟨rfl,rfl⟩
theorem lnkSplit_spec {n b:Int} (hn:-9223372036854775808≤n∧n≤9223372036854775807) (hb0:1≤b∧b≤1048576):Ans Tryz.prog (fv 257) [int n,int b] [] (fun r=>r=.tuple #[int (n / b),int (n % b)]):=by
 obtain ⟨e1,e2⟩:=split_eq (m:=n) (n:=b) (by omega)
 have hb:In64 (n.tdiv b):=by have:=tdiv_bd (n:=b) (by omega) hn; exact ⟨by omega,by omega⟩
 have hb2:=tdiv_bd (n:=b) (by omega) hn
 have hm:=Int.tmod_lt_of_pos n (show 0<b by omega)
 have h2:=Int.emod_nonneg n (show b≠0 by omega)
 have h3:=Int.mul_tdiv_add_tmod n b
 have hq0:n.tmod b<0 → -9223372036854775808<n.tdiv b:=fun h=>by
  rcases Int.lt_or_le (-9223372036854775808) (n.tdiv b) with g|g
  ·exact g
  ·have g2:n.tdiv b ≤ -9223372036854775808:=g
   have h7:=Int.mul_le_mul_of_nonneg_left (show n.tdiv b≤0 by omega) (show 0≤b-1 by omega)
   rw [Int.sub_mul,Int.one_mul,Int.mul_zero] at h7;omega
 obtain ⟨h4,h5⟩:=hb0
 refine spec_in (cap:=[]) Tryz.func257 rfl rfl Tryz.ntmps257 rfl envZ (fun N β=>?_)
 by_cases hneg:n.tmod b<0
 ·rw [if_pos hneg] at e1 e2
  rw [← e1,← e2]
  have hq1:=hq0 hneg
  have hlo:-1048576≤n.tmod b:=by omega
  refine Acg ?_;refine Aar ?_
  focus ((refine' BQ _ rfl rfl rfl _; rotate_left; (apply E6; exact rfl; exact rfl; omega)))
  refine Aa7 ?_;refine CC ?_;refine Aal ?_;refine Ab5 ?_;refine CA ?_;refine Acd ?_
  focus ((refine' BQ _ rfl rfl rfl _; rotate_left; (apply GH; exact rfl; exact rfl; omega; exact hb)))
  refine Aa7 ?_;refine AB ?_
  focus ((refine' BQ _ rfl rfl rfl _; rotate_left; (apply E6; exact rfl; exact rfl; omega)))
  refine CC ?_;refine Aal ?_;refine Acf ?_;refine DI ?_;refine Acd ?_;refine Aai ?_;exact AK (res2 rfl rfl rfl) rsubZ selZ ⟨rfl,rfl⟩
 ·rw [if_neg hneg] at e1 e2
  rw [← e1,← e2];refine Acg ?_;refine Aar ?_
  focus ((refine' BQ _ rfl rfl rfl _; rotate_left; (apply E6; exact rfl; exact rfl; omega)))
  refine Aa7 ?_;refine BN ?_;refine Aag ?_;refine Aar ?_
  focus ((refine' BQ _ rfl rfl rfl _; rotate_left; (apply GH; exact rfl; exact rfl; omega; exact hb)))
  refine Aa7 ?_;refine AB ?_
  focus ((refine' BQ _ rfl rfl rfl _; rotate_left; (apply E6; exact rfl; exact rfl; omega)))
  refine BN ?_;refine Aag ?_;refine Aar ?_;refine Aai ?_;exact AK (res2 rfl rfl rfl) rsubZ selZ ⟨rfl,rfl⟩
theorem lnkNew_spec {n:Int} (h:1≤n∧n≤1048576):Ans Tryz.prog (fv 37) [int n] [] (fun r=>r=.tuple #[.agg #[int n,.slice none 0 0,int 0,int 0],int 0]):=by
 have hd:=lnkDelay_spec h
 refine spec_in (cap:=[]) Tryz.func37 rfl rfl Tryz.ntmps37 rfl envZ (fun N β=>?_)
 refine Aa ?_;refine A6 ?_; rintro _ _ ⟨b,rfl,rfl⟩;refine Aa7 ?_;refine AW hd rfl rfl rdZ rfl rfl ?_;rintro _ rfl;refine Abm ?_;refine Aab ?_;refine B5 ?_;refine AX ?_; rintro _ _ ⟨rfl,rfl⟩;refine Aaa ?_;exact AK (resSE (v1:=[int n,.slice none 0 0,int 0,int 0]) rfl rfl rfl rfl rfl (cells_own memZ)) rsubZ selZ ⟨rfl,rfl⟩
theorem lnkFate1_spec {rng m:Int} (h:0≤rng∧rng≤1048576) (hm:0≤m∧m≤1048576):Makes Tryz.prog (fv 263) [int rng,int m] [] (fun r σ=>∃ p c,r=.slice p 1 c∧OwnS 3 1 (.slice p 1 c) 1 [int rng] σ):=by
 obtain ⟨h1,h2⟩:=h
 obtain ⟨h3,h4⟩:=hm
 refine spec_in (cap:=[]) Tryz.func263 rfl rfl Tryz.ntmps263 rfl envZ (fun N β=>?_)
 refine Ach ?_;refine BS ?_; rintro _ _ ⟨b,rfl,rfl⟩;refine Aaa ?_
 exact AK (res1 rfl rfl) rsubZ selZ ⟨_,⟨_,_,rfl,ownS_sng (cs:=[int rng]) rfl (by decide)⟩,rfl⟩
theorem lnkFate2_spec {rng m:Int} (h:0≤rng∧rng≤1048576) (hm:0≤m∧m≤1048576):Makes Tryz.prog (fv 264) [int rng,int m] [] (fun r σ=>∃ p c,r=.slice p 2 c∧OwnS 3 1 (.slice p 2 c) 2 [int rng,int (rng+1+m)] σ):=by
 obtain ⟨h1,h2⟩:=h
 obtain ⟨h3,h4⟩:=hm
 refine spec_in (cap:=[]) Tryz.func264 rfl rfl Tryz.ntmps264 rfl envZ (fun N β=>?_)
 refine Ac6 ?_;refine CA ?_;refine AB ?_;refine CA ?_;refine BS ?_; rintro _ _ ⟨b,rfl,rfl⟩;refine Aaa ?_
 exact AK (res1 rfl rfl) rsubZ selZ ⟨_,⟨_,_,rfl,ownS_sng (cs:=[int rng,int (rng+1+m)]) rfl (by decide)⟩,rfl⟩
theorem lnkFate3_spec {rng m:Int} (h:0≤rng∧rng≤1048576) (hm:0≤m∧m≤1048576):Makes Tryz.prog (fv 265) [int rng,int m] [] (fun r σ=>∃ p c,r=.slice p 1 c∧OwnS 3 1 (.slice p 1 c) 1 [int (rng+1+m)] σ):=by
 obtain ⟨h1,h2⟩:=h
 obtain ⟨h3,h4⟩:=hm
 refine spec_in (cap:=[]) Tryz.func265 rfl rfl Tryz.ntmps265 rfl envZ (fun N β=>?_)
 refine Ach ?_;refine CA ?_;refine AB ?_;refine CA ?_;refine BS ?_; rintro _ _ ⟨b,rfl,rfl⟩;refine Aaa ?_
 exact AK (res1 rfl rfl) rsubZ selZ ⟨_,⟨_,_,rfl,ownS_sng (cs:=[int (rng+1+m)]) rfl (by decide)⟩,rfl⟩
theorem lnkFate4_spec {rng m:Int} (h:0≤rng∧rng≤1048576) (hm:0≤m∧m≤1048576):Makes Tryz.prog (fv 266) [int rng,int m] [] (fun r σ=>∃ p c,r=.slice p 0 c∧OwnS 3 1 (.slice p 0 c) 0 [] σ):=by
 refine spec_in (cap:=[]) Tryz.func266 rfl rfl Tryz.ntmps266 rfl envZ (fun N β=>?_)
 refine CB ?_;refine Aan ?_;refine Aan ?_;exact AK (res1 rfl rfl) rsubZ selZ ⟨emp,⟨none,0,rfl,OwnS.nil _ _⟩,rfl⟩
theorem lnkFates_spec:Ans Tryz.prog (fv 258) [] [] (fun r=>r=.agg #[fv 263,fv 263,fv 263,fv 263,fv 264,fv 264,fv 265,fv 266]):=by
 refine spec_in (cap:=[]) Tryz.func258 rfl rfl Tryz.ntmps258 rfl envZ (fun N β=>?_)
 refine Aa ?_;refine A6 ?_; rintro _ _ ⟨b,rfl,rfl⟩;refine Ab3 ?_;refine B5 ?_;refine A6 ?_; rintro _ _ ⟨b,rfl,rfl⟩;refine AX ?_; rintro _ _ ⟨rfl,rfl⟩;refine Ab3 ?_;refine B5 ?_;refine A6 ?_; rintro _ _ ⟨b,rfl,rfl⟩;refine AX ?_; rintro _ _ ⟨rfl,rfl⟩;refine Ab3 ?_;refine B5 ?_;refine A6 ?_; rintro _ _ ⟨b,rfl,rfl⟩;refine AX ?_; rintro _ _ ⟨rfl,rfl⟩;refine Ab3 ?_;refine B5 ?_;refine A6 ?_; rintro _ _ ⟨b,rfl,rfl⟩;refine AX ?_; rintro _ _ ⟨rfl,rfl⟩;refine AE ?_;refine Aaz ?_;refine AV ?_;refine AV ?_;refine AV ?_;refine AV ?_;refine AV ?_;refine AV ?_;refine AV ?_
 focus ((refine BQ (DQ (s:=1) (out:=[fv 263,fv 263,fv 263,fv 263,fv 264,fv 264,fv 265,fv 266]) rfl rfl rfl rfl (by kernel_rfl)) rfl rfl rfl ?_))
 refine AX ?_; rintro _ _ ⟨rfl,rfl⟩;refine AE ?_;exact AK (resS1 (v1:=[fv 263,fv 263,fv 263,fv 263,fv 264,fv 264,fv 265,fv 266]) rfl rfl rfl rfl (cells_own memZ)) rsubZ selZ ⟨rfl,rfl⟩
theorem lnkFate_spec {n rng:Int} (hn:-9223372036854775808≤n∧n≤9223372036854775807) (hr:1≤rng∧rng≤1048576):Makes Tryz.prog (fv 242) [int n,int rng] [] (fun r σ=>∃ p c,r=.tuple #[.slice p (fateM n rng).length c,int 0]∧OwnS 3 1 (.slice p (fateM n rng).length c) (fateM n rng).length ((fateM n rng).map int) σ):=by
 have hd:=lnkDelay_spec hr
 have hsp:=lnkSplit_spec (n:=n) (b:=8) hn (by omega)
 have hsp2:=lnkSplit_spec (n:=n / 8) (b:=rng) (by omega) hr
 have h2:=Int.emod_nonneg (n / 8) (show rng≠0 by omega)
 have h3:=Int.emod_lt_of_pos (n / 8) (show 0<rng by omega)
 refine spec_in (cap:=[]) Tryz.func242 rfl rfl Tryz.ntmps242 rfl envZ (fun N β=>?_)
 refine Acg ?_;refine Aah ?_;refine AW hd rfl rfl rdZ rfl rfl ?_;rintro _ rfl;refine Abm ?_;refine Aab ?_
 have hk:n % 8=0∨n % 8=1∨n % 8=2∨n % 8=3∨n % 8=4∨n % 8=5∨n % 8=6∨n % 8=7:=by omega
 rcases hk with hk|hk|hk|hk|hk|hk|hk|hk
 ·have hF:fateM n rng=[rng]:=by unfold fateM; simp [hk]
  rw [hF];rw [hk] at hsp;refine AW hsp rfl rfl rdZ rfl rfl ?_;rintro _ rfl;refine Adc ?_;refine AW hsp2 rfl rfl rdZ rfl rfl ?_;rintro _ rfl;refine Aa1 ?_;refine Aa ?_;refine AW lnkFates_spec rfl rfl rdZ rfl rfl ?_;rintro _ rfl;refine A6 ?_; rintro _ _ ⟨b,rfl,rfl⟩;refine AX ?_; rintro _ _ ⟨rfl,rfl⟩;refine Abu ?_
  revert b; intro b10
  refine AZ (ρ:=sng b10 _) takeZ ?_
  have bx351_3:=rdB b10 372 [fv 263,fv 263,fv 263,fv 263,fv 264,fv 264,fv 265,fv 266]
  have g0:=rdC bx351_3 0
  focus ((refine BQ (CL (i:=0) (m:=0) (s:=1) rfl rfl rfl rfl (by decide) rfl) rfl rfl rfl ?_))
  refine Aae ?_;refine Aak ?_
  refine B9 (lnkFate1_spec (rng:=rng) (m:=n / 8 % rng) (by omega) (by omega)) rfl rfl rdZ rfl rfl ?_
  rintro _ σ ⟨p,c,rfl,hO⟩;refine Aai ?_;exact AK (res2 rfl rfl rfl) rsubZ selZ ⟨σ,⟨p,c,rfl,hO⟩,rfl⟩
 ·have hF:fateM n rng=[rng]:=by unfold fateM; simp [hk]
  rw [hF];rw [hk] at hsp;refine AW hsp rfl rfl rdZ rfl rfl ?_;rintro _ rfl;refine Adc ?_;refine AW hsp2 rfl rfl rdZ rfl rfl ?_;rintro _ rfl;refine Aa1 ?_;refine Aa ?_;refine AW lnkFates_spec rfl rfl rdZ rfl rfl ?_;rintro _ rfl;refine A6 ?_; rintro _ _ ⟨b,rfl,rfl⟩;refine AX ?_; rintro _ _ ⟨rfl,rfl⟩;refine Abu ?_
  revert b; intro b10
  refine AZ (ρ:=sng b10 _) takeZ ?_
  have bx398_3:=rdB b10 372 [fv 263,fv 263,fv 263,fv 263,fv 264,fv 264,fv 265,fv 266]
  have g0:=rdC bx398_3 1
  focus ((refine BQ (CL (i:=1) (m:=1) (s:=1) rfl rfl rfl rfl (by decide) rfl) rfl rfl rfl ?_))
  refine Acy ?_;refine Aak ?_
  refine B9 (lnkFate1_spec (rng:=rng) (m:=n / 8 % rng) (by omega) (by omega)) rfl rfl rdZ rfl rfl ?_
  rintro _ σ ⟨p,c,rfl,hO⟩;refine Aai ?_;exact AK (res2 rfl rfl rfl) rsubZ selZ ⟨σ,⟨p,c,rfl,hO⟩,rfl⟩
 ·have hF:fateM n rng=[rng]:=by unfold fateM; simp [hk]
  rw [hF];rw [hk] at hsp;refine AW hsp rfl rfl rdZ rfl rfl ?_;rintro _ rfl;refine Adc ?_;refine AW hsp2 rfl rfl rdZ rfl rfl ?_;rintro _ rfl;refine Aa1 ?_;refine Aa ?_;refine AW lnkFates_spec rfl rfl rdZ rfl rfl ?_;rintro _ rfl;refine A6 ?_; rintro _ _ ⟨b,rfl,rfl⟩;refine AX ?_; rintro _ _ ⟨rfl,rfl⟩;refine Abu ?_
  revert b; intro b10
  refine AZ (ρ:=sng b10 _) takeZ ?_
  have bx445_3:=rdB b10 372 [fv 263,fv 263,fv 263,fv 263,fv 264,fv 264,fv 265,fv 266]
  have g0:=rdC bx445_3 2
  focus ((refine BQ (CL (i:=2) (m:=2) (s:=1) rfl rfl rfl rfl (by decide) rfl) rfl rfl rfl ?_))
  refine Acy ?_;refine Aak ?_
  refine B9 (lnkFate1_spec (rng:=rng) (m:=n / 8 % rng) (by omega) (by omega)) rfl rfl rdZ rfl rfl ?_
  rintro _ σ ⟨p,c,rfl,hO⟩;refine Aai ?_;exact AK (res2 rfl rfl rfl) rsubZ selZ ⟨σ,⟨p,c,rfl,hO⟩,rfl⟩
 ·have hF:fateM n rng=[rng]:=by unfold fateM; simp [hk]
  rw [hF];rw [hk] at hsp;refine AW hsp rfl rfl rdZ rfl rfl ?_;rintro _ rfl;refine Adc ?_;refine AW hsp2 rfl rfl rdZ rfl rfl ?_;rintro _ rfl;refine Aa1 ?_;refine Aa ?_;refine AW lnkFates_spec rfl rfl rdZ rfl rfl ?_;rintro _ rfl;refine A6 ?_; rintro _ _ ⟨b,rfl,rfl⟩;refine AX ?_; rintro _ _ ⟨rfl,rfl⟩;refine Abu ?_
  revert b; intro b10
  refine AZ (ρ:=sng b10 _) takeZ ?_
  have bx492_3:=rdB b10 372 [fv 263,fv 263,fv 263,fv 263,fv 264,fv 264,fv 265,fv 266]
  have g0:=rdC bx492_3 3
  focus ((refine BQ (CL (i:=3) (m:=3) (s:=1) rfl rfl rfl rfl (by decide) rfl) rfl rfl rfl ?_))
  refine Acy ?_;refine Aak ?_
  refine B9 (lnkFate1_spec (rng:=rng) (m:=n / 8 % rng) (by omega) (by omega)) rfl rfl rdZ rfl rfl ?_
  rintro _ σ ⟨p,c,rfl,hO⟩;refine Aai ?_;exact AK (res2 rfl rfl rfl) rsubZ selZ ⟨σ,⟨p,c,rfl,hO⟩,rfl⟩
 ·have hF:fateM n rng=[rng,(rng+1+n / 8 % rng)]:=by unfold fateM; simp [hk]
  rw [hF];rw [hk] at hsp;refine AW hsp rfl rfl rdZ rfl rfl ?_;rintro _ rfl;refine Adc ?_;refine AW hsp2 rfl rfl rdZ rfl rfl ?_;rintro _ rfl;refine Aa1 ?_;refine Aa ?_;refine AW lnkFates_spec rfl rfl rdZ rfl rfl ?_;rintro _ rfl;refine A6 ?_; rintro _ _ ⟨b,rfl,rfl⟩;refine AX ?_; rintro _ _ ⟨rfl,rfl⟩;refine Abu ?_
  revert b; intro b10
  refine AZ (ρ:=sng b10 _) takeZ ?_
  have bx539_3:=rdB b10 372 [fv 263,fv 263,fv 263,fv 263,fv 264,fv 264,fv 265,fv 266]
  have g0:=rdC bx539_3 4
  focus ((refine BQ (CL (i:=4) (m:=4) (s:=1) rfl rfl rfl rfl (by decide) rfl) rfl rfl rfl ?_))
  refine Acy ?_;refine Aak ?_
  refine B9 (lnkFate2_spec (rng:=rng) (m:=n / 8 % rng) (by omega) (by omega)) rfl rfl rdZ rfl rfl ?_
  rintro _ σ ⟨p,c,rfl,hO⟩;refine Aai ?_;exact AK (res2 rfl rfl rfl) rsubZ selZ ⟨σ,⟨p,c,rfl,hO⟩,rfl⟩
 ·have hF:fateM n rng=[rng,(rng+1+n / 8 % rng)]:=by unfold fateM; simp [hk]
  rw [hF];rw [hk] at hsp;refine AW hsp rfl rfl rdZ rfl rfl ?_;rintro _ rfl;refine Adc ?_;refine AW hsp2 rfl rfl rdZ rfl rfl ?_;rintro _ rfl;refine Aa1 ?_;refine Aa ?_;refine AW lnkFates_spec rfl rfl rdZ rfl rfl ?_;rintro _ rfl;refine A6 ?_; rintro _ _ ⟨b,rfl,rfl⟩;refine AX ?_; rintro _ _ ⟨rfl,rfl⟩;refine Abu ?_
  revert b; intro b10
  refine AZ (ρ:=sng b10 _) takeZ ?_
  have bx586_3:=rdB b10 372 [fv 263,fv 263,fv 263,fv 263,fv 264,fv 264,fv 265,fv 266]
  have g0:=rdC bx586_3 5
  focus ((refine BQ (CL (i:=5) (m:=5) (s:=1) rfl rfl rfl rfl (by decide) rfl) rfl rfl rfl ?_))
  refine Acy ?_;refine Aak ?_
  refine B9 (lnkFate2_spec (rng:=rng) (m:=n / 8 % rng) (by omega) (by omega)) rfl rfl rdZ rfl rfl ?_
  rintro _ σ ⟨p,c,rfl,hO⟩;refine Aai ?_;exact AK (res2 rfl rfl rfl) rsubZ selZ ⟨σ,⟨p,c,rfl,hO⟩,rfl⟩
 ·have hF:fateM n rng=[(rng+1+n / 8 % rng)]:=by unfold fateM; simp [hk]
  rw [hF];rw [hk] at hsp;refine AW hsp rfl rfl rdZ rfl rfl ?_;rintro _ rfl;refine Adc ?_;refine AW hsp2 rfl rfl rdZ rfl rfl ?_;rintro _ rfl;refine Aa1 ?_;refine Aa ?_;refine AW lnkFates_spec rfl rfl rdZ rfl rfl ?_;rintro _ rfl;refine A6 ?_; rintro _ _ ⟨b,rfl,rfl⟩;refine AX ?_; rintro _ _ ⟨rfl,rfl⟩;refine Abu ?_
  revert b; intro b10
  refine AZ (ρ:=sng b10 _) takeZ ?_
  have bx633_3:=rdB b10 372 [fv 263,fv 263,fv 263,fv 263,fv 264,fv 264,fv 265,fv 266]
  have g0:=rdC bx633_3 6
  focus ((refine BQ (CL (i:=6) (m:=6) (s:=1) rfl rfl rfl rfl (by decide) rfl) rfl rfl rfl ?_))
  refine Acy ?_;refine Aak ?_
  refine B9 (lnkFate3_spec (rng:=rng) (m:=n / 8 % rng) (by omega) (by omega)) rfl rfl rdZ rfl rfl ?_
  rintro _ σ ⟨p,c,rfl,hO⟩;refine Aai ?_;exact AK (res2 rfl rfl rfl) rsubZ selZ ⟨σ,⟨p,c,rfl,hO⟩,rfl⟩
 ·have hF:fateM n rng=[]:=by unfold fateM; simp [hk]
  rw [hF];rw [hk] at hsp;refine AW hsp rfl rfl rdZ rfl rfl ?_;rintro _ rfl;refine Adc ?_;refine AW hsp2 rfl rfl rdZ rfl rfl ?_;rintro _ rfl;refine Aa1 ?_;refine Aa ?_;refine AW lnkFates_spec rfl rfl rdZ rfl rfl ?_;rintro _ rfl;refine A6 ?_; rintro _ _ ⟨b,rfl,rfl⟩;refine AX ?_; rintro _ _ ⟨rfl,rfl⟩;refine Abu ?_
  revert b; intro b10
  refine AZ (ρ:=sng b10 _) takeZ ?_
  have bx680_3:=rdB b10 372 [fv 263,fv 263,fv 263,fv 263,fv 264,fv 264,fv 265,fv 266]
  have g0:=rdC bx680_3 7
  focus ((refine BQ (CL (i:=7) (m:=7) (s:=1) rfl rfl rfl rfl (by decide) rfl) rfl rfl rfl ?_))
  refine Acy ?_;refine Aak ?_
  refine B9 (lnkFate4_spec (rng:=rng) (m:=n / 8 % rng) (by omega) (by omega)) rfl rfl rdZ rfl rfl ?_
  rintro _ σ ⟨p,c,rfl,hO⟩;refine Aai ?_;exact AK (res2 rfl rfl rfl) rsubZ selZ ⟨σ,⟨p,c,rfl,hO⟩,rfl⟩
theorem indexTrS_spec (ρ:PH) (Rs:List PH) (v fn:Value) (l:List (Int × Int)) (p:(Int × Int)→Bool) (hv:SlE encS 2 ρ v l) (hl:l.length≤9223372036854775807) (hfn:∀ (i:Nat) (x:(Int × Int)),l[i]?=some x→Ans Tryz.prog fn [.agg (encS x).toArray] Rs (fun r=>r=.bool (p x))) :
  Ans Tryz.prog (fv 262) [v,fn] (ρ::Rs) (fun r=>(∃ (i:Nat) (x:(Int × Int)),l[i]?=some x∧p x=true∧(∀ (j:Nat) (y:(Int × Int)),j<i→l[j]?=some y→p y=false)∧r=int i)∨((∀ x∈l,p x=false)∧r=int (-1))):=by
 obtain ⟨q,c,rfl,hr⟩:=hv.val encS_len
 refine spec_in (cap:=[]) Tryz.func262 rfl rfl Tryz.ntmps262 rfl envZ (fun N β=>?_)
 refine Ab0 ?_;refine Abw ?_
 refine BX [0,1,7] (0:Nat) (fun k=>k≤l.length∧∀ (i:Nat) (x:(Int × Int)),i<k→l[i]?=some x→p x=false) (fun k=>[(8,int k)]) (fun _=>[]) (fun k=>l.length-k) pickZ ⟨by omega,fun i x h=>by omega⟩ covZ selZ ?_
 rintro k ⟨hk,hI⟩
 by_cases hlt:k<l.length
 ·have hx:=List.getElem?_eq_getElem hlt
  obtain ⟨b1,o1,rfl,hrd⟩:=hr k _ hx
  have hrd2:RdN ρ b1 (o1+k*2) (encS l[k]):=hrd
  have hf:=hfn k _ hx
  refine Abs ?_;refine Abn ?_;refine Aab ?_;refine Aak ?_;refine Acj ?_
  refine AW hf rfl rfl (fun τ hτ=>.inl (by simp [hτ])) rfl rfl ?_
  rintro _ rfl
  cases hp:p l[k] with
  | true =>
   refine Aal ?_;refine Abn ?_;exact AK (res1 rfl rfl) rsubZ selZ ⟨rfl,.inl ⟨k,l[k],hx,hp,hI,rfl⟩⟩
  | false =>
   refine Aag ?_;refine Abc ?_
   refine BH (k+1) ⟨by omega,fun i x hi hix=>?_⟩ (by omega) covZ selZ
   by_cases e:i=k
   ·subst e; rw [hx] at hix; injection hix with hix; rw [← hix]; exact hp
   ·exact hI i x (by omega) hix
 ·refine AD ?_
  refine AA ?_;refine Abq ?_;refine Aan ?_
  refine AK (res1 rfl rfl) rsubZ selZ ⟨rfl,.inr ⟨fun x hx=>?_,rfl⟩⟩
  obtain ⟨i,hi,rfl⟩:=List.getElem_of_mem hx
  exact hI i _ (by omega) (List.getElem?_eq_getElem hi)
theorem contTrS_spec (ρ:PH) (Rs:List PH) (v fn:Value) (l:List (Int × Int)) (p:(Int × Int)→Bool) (hv:SlE encS 2 ρ v l) (hl:l.length≤9223372036854775807) (hfn:∀ (i:Nat) (x:(Int × Int)),l[i]?=some x→Ans Tryz.prog fn [.agg (encS x).toArray] Rs (fun r=>r=.bool (p x))) :
  Ans Tryz.prog (fv 255) [v,fn] (ρ::Rs) (fun r=>r=.bool (l.any p)):=by
 have hix:=indexTrS_spec ρ Rs v fn l p hv hl hfn
 obtain ⟨q,c,rfl,hr⟩:=hv.val encS_len
 refine spec_in (cap:=[]) Tryz.func255 rfl rfl Tryz.ntmps255 rfl envZ (fun N β=>?_)
 refine Ac6 ?_
 refine AW hix rfl rfl (fun τ hτ=>.inl (List.mem_cons_of_mem _ hτ)) rfl rfl ?_
 rintro _ (⟨i,x,hi,hp,_,rfl⟩|⟨hall2,rfl⟩)
 ·have hfl:l.any p=true:=List.any_eq_true.2 ⟨x,List.mem_of_getElem? hi,hp⟩
  refine DG ?_;refine Aaa ?_
  exact AK (res1 rfl rfl) rsubZ selZ ⟨rfl,by rw [hfl]⟩
 ·have hfl:l.any p=false:=List.any_eq_false.2 (fun x hx=>by rw [hall2 x hx]; simp)
  refine DH ?_;refine Aaa ?_
  exact AK (res1 rfl rfl) rsubZ selZ ⟨rfl,by rw [hfl]⟩
theorem trHas1_spec (bt:Nat) (t:Int) (x:Int × Int):Ans Tryz.prog (.func (.func 256) #[] #[.pointer (some ⟨bt,0,none⟩)]) [.agg (encS x).toArray] [sng bt (.cells #[int t] 3 (0,0))] (fun r=>r=.bool (inSp t x)):=by
 have bx801_3:=rdB bt 3 [int t]
 have f0:=rdC bx801_3 0
 refine spec_in (cap:=[.pointer (some ⟨bt,0,none⟩)]) Tryz.func256 rfl rfl Tryz.ntmps256 rfl envZ (fun N β=>?_)
 refine Aa ?_;refine BK (BM rfl) rfl rfl rfl ?_;rintro _ _ ⟨b2,rfl,rfl⟩;refine AZ (ρ:=sng b2 _) takeZ ?_
 have cx:=rdB b2 49 [int x.1,int x.2]
 have cx0:=rdC cx 0
 have cx1:=rdC cx 1
 by_cases h1:x.1≤t
 ·by_cases h2:t<x.2
  ·rw [show inSp t x=true from inSp_iff.2 ⟨h1,h2⟩]
   refine Ab4 ?_;refine AG ?_;refine EA ?_;refine AB ?_;refine AG ?_;refine Aae ?_;refine CC ?_;refine Abi ?_;exact BE ⟨rfl,rfl⟩
  ·rw [show inSp t x=false by cases h:inSp t x with|false=>rfl|true=>exact absurd (inSp_iff.1 h).2 h2]
   refine Ab4 ?_;refine AG ?_;refine EA ?_;refine AB ?_;refine AG ?_;refine Aae ?_;refine BN ?_;refine Abi ?_;exact BE ⟨rfl,rfl⟩
 ·rw [show inSp t x=false by cases h:inSp t x with|false=>rfl|true=>exact absurd (inSp_iff.1 h).1 h1]
  refine Ab4 ?_;refine AG ?_;refine FV ?_;refine Abv ?_;refine AR ?_;refine Aaa ?_;exact BE ⟨rfl,rfl⟩
theorem trHas_spec (ρ:PH) (v:Value) (l:Iv) (t:Int) (hv:SpAt ρ v l) (hl:l.length≤9223372036854775807) (hc0:chkI l=0) :
  Ans Tryz.prog (fv 241) [v,int t] [ρ] (fun r=>r=.bool (memI l t)):=by
 have hc:=ivCheck_spec ρ v l hv hl
 rw [hc0] at hc
 have hcon:=fun bt=>contTrS_spec ρ [sng bt (.cells #[int t] 3 (0,0))] v (.func (.func 256) #[] #[.pointer (some ⟨bt,0,none⟩)]) l (inSp t) hv hl (fun _ x _=>trHas1_spec bt t x)
 obtain ⟨q,c,rfl,_⟩:=hv.val encS_len
 refine spec_in (cap:=[]) Tryz.func241 rfl rfl Tryz.ntmps241 rfl envZ (fun N β=>?_)
 refine Aa ?_;refine D0 ?_; rintro _ _ ⟨b,rfl,rfl⟩;refine Ab1 ?_
 revert b; intro bt
 refine AZ (ρ:=sng bt _) takeZ ?_;refine AW hc rfl rfl rdZ rfl rfl ?_;rintro _ rfl;refine CM ?_;refine Aak ?_;refine B0 ?_;refine AW (hcon bt) rfl rfl rdZ rfl rfl ?_;rintro _ rfl;refine Abi ?_;exact BE ⟨rfl,rfl⟩
end Go.Proofs.YtahbngakckbenaaGreatDoor
namespace Go.Step
open Go.Eng
def encMsg (d:List UInt8) (v:Value):Msg→List Value
  | .dat x=>encG 0 d x
  | .rep sr _=>encRp 0 sr d.length v
def encF (d:List UInt8) (f:Frm × Value):List Value:=int f.1.arr::int f.1.num::encMsg d f.2 f.1.g
theorem encF_len (d:List UInt8) (f:Frm × Value):(encF d f).length=10:=by
  obtain ⟨⟨a,n,g⟩,v⟩:=f
  cases g <;> rfl
theorem encMsg_ones {d:List UInt8} {v:Value} {g:Msg} (hv:v.oneCell'=true):∀ u∈encMsg d v g,u.oneCell'=true:=by
  cases g with
  | dat x=>exact encG_ones 0 d x
  | rep sr K =>
    intro u hu
    simp only [encMsg,encRp,List.mem_cons,List.not_mem_nil,or_false] at hu
    rcases hu with rfl|rfl|rfl|rfl|rfl|rfl|rfl|rfl <;> first|rfl|exact hv
theorem encF_ones {d:List UInt8} {F:List (Frm × Value)} (h:∀ f∈F,f.2.oneCell'=true):∀ u∈F.flatMap (encF d),u.oneCell'=true:=by
  intro u hu
  obtain ⟨f,hf,hu⟩:=List.mem_flatMap.1 hu
  rcases List.mem_cons.1 hu with rfl|hu
  · rfl
  rcases List.mem_cons.1 hu with rfl|hu
  · rfl
  · exact encMsg_ones (h f hf) u hu
theorem enc8 (d:List UInt8) {v:Value} (g:Msg) (hv:v.oneCell'=true):∃ m0 m1 m2 m3 m4 m5 m6 m7:Value,encMsg d v g=[m0,m1,m2,m3,m4,m5,m6,m7]∧m0.oneCell'=true∧m1.oneCell'=true∧m2.oneCell'=true∧m3.oneCell'=true∧m4.oneCell'=true∧m5.oneCell'=true∧m6.oneCell'=true∧m7.oneCell'=true:=by
  cases g with
  | dat x=>exact ⟨_,_,_,_,_,_,_,_,rfl,rfl,rfl,rfl,rfl,rfl,rfl,rfl,rfl⟩
  | rep sr K=>exact ⟨_,_,_,_,_,_,_,_,rfl,rfl,rfl,rfl,rfl,rfl,rfl,rfl,hv⟩
structure V10 where
  a0:Value
  a1:Value
  a2:Value
  a3:Value
  a4:Value
  a5:Value
  a6:Value
  a7:Value
  a8:Value
  a9:Value
  h:∀ u∈[a0,a1,a2,a3,a4,a5,a6,a7,a8,a9],u.oneCell'=true
def enc10 (x:V10):List Value:=[x.a0,x.a1,x.a2,x.a3,x.a4,x.a5,x.a6,x.a7,x.a8,x.a9]
theorem enc10_len (x:V10):(enc10 x).length=10:=rfl
theorem ones10:∀ (l:List V10),∀ u∈l.flatMap enc10,u.oneCell'=true:=fun l u hu=>by
  obtain ⟨x,_,hx⟩:=List.mem_flatMap.1 hu
  exact x.h u hx
def fix1 (v:Value):Value:=if v.oneCell'=true then v else .slice none 0 0
theorem fix1_one (v:Value):(fix1 v).oneCell'=true:=by
  unfold fix1
  split
  · assumption
  · rfl
theorem fix1_eq {v:Value} (h:v.oneCell'=true):fix1 v=v:=if_pos h
def to10 (d:List UInt8) (f:Frm × Value):V10:=
  match f.1.g with
  | .dat x=>⟨int f.1.arr,int f.1.num,int 1,int 0,int x.sr,int (x.a:Int),int (d.length:Int),.bool (decide (1≤x.sr)),str (cutD d x.a x.b),.slice none 0 0,by
      intro u hu
      simp only [List.mem_cons,List.not_mem_nil,or_false] at hu
      rcases hu with rfl|rfl|rfl|rfl|rfl|rfl|rfl|rfl|rfl|rfl <;> rfl⟩
  | .rep sr _=>⟨int f.1.arr,int f.1.num,int 2,int 0,int sr,int 0,int (d.length:Int),.bool false,str [],fix1 f.2,by
      intro u hu
      simp only [List.mem_cons,List.not_mem_nil,or_false] at hu
      rcases hu with rfl|rfl|rfl|rfl|rfl|rfl|rfl|rfl|rfl|rfl <;> first|rfl|exact fix1_one _⟩
theorem enc10_to {d:List UInt8} {f:Frm × Value} (h:f.2.oneCell'=true):enc10 (to10 d f)=encF d f:=by
  obtain ⟨⟨a,n,g⟩,v⟩:=f
  cases g with
  | dat x=>rfl
  | rep sr K =>
    show [int a,int n,int 2,int 0,int sr,int 0,int (d.length:Int),.bool false,str [],fix1 v]=_
    rw [fix1_eq h]
    rfl
theorem flat10 {d:List UInt8} {F:List (Frm × Value)} (h:∀ f∈F,f.2.oneCell'=true):(F.map (to10 d)).flatMap enc10=F.flatMap (encF d):=by
  induction F with
  | nil=>rfl
  | cons f F ih=>rw [List.map_cons,List.flatMap_cons,List.flatMap_cons,enc10_to (h f (by simp)),ih (fun g hg=>h g (by simp [hg]))]
theorem insF_at (f:Frm):∀ (l:List Frm) (k:Nat),k≤l.length→(∀ i x,i<k→l[i]?=some x→¬ f.arr<x.arr)→(∀ x,l[k]?=some x→f.arr<x.arr)→insF f l=l.take k ++ f::l.drop k
  | [],k,hk,_,_=>by
    have:k=0:=by simpa using hk
    subst this
    rfl
  | x::l,0,_,_,h2=>by
    have:=h2 x rfl
    unfold insF;rw [if_pos this]
    rfl
  | x::l,k+1,hk,h1,h2=>by
    have:=h1 0 x (by omega) rfl
    unfold insF
    rw [if_neg this,insF_at f l k (by simpa using hk) (fun i y hi hy=>h1 (i+1) y (by omega) (by simpa using hy)) (fun y hy=>h2 y (by simpa using hy))]
    rfl
theorem insFs_snoc (t num:Int) (g:Msg) (x:Int):∀ (ds:List Int) (l:List Frm),insFs t num g (ds ++ [x]) l=insF ⟨t+x,num,g⟩ (insFs t num g ds l)
  | [],l=>rfl
  | d::ds,l=>insFs_snoc t num g x ds _
theorem insL_enc {d:List UInt8} {F:List (Frm × Value)} {k:Nat} {f:Frm × Value} {h:V10} (hF:∀ x∈F,x.2.oneCell'=true) (hh:enc10 h=encF d f):(insL (F.map (to10 d)) k h).flatMap enc10=(insL F k f).flatMap (encF d):=by
  unfold insL
  rw [← List.map_take,← List.map_drop,List.flatMap_append,List.flatMap_cons,List.flatMap_append,List.flatMap_cons,hh,flat10 (fun x hx=>hF x (List.mem_of_mem_take hx)),flat10 (fun x hx=>hF x (List.mem_of_mem_drop hx))]
theorem insL_map {F:List (Frm × Value)} {k:Nat} {f:Frm × Value}:(insL F k f).map (·.1)=(F.map (·.1)).take k ++ f.1::(F.map (·.1)).drop k:=by
  unfold insL;rw [List.map_append,List.map_cons,List.map_take,List.map_drop]
theorem insL_mem {F:List (Frm × Value)} {k:Nat} {f x:Frm × Value} (h:x∈insL F k f):x=f∨x∈F:=by
  unfold insL at h
  rcases List.mem_append.1 h with h|h
  · exact .inr (List.mem_of_mem_take h)
  · rcases List.mem_cons.1 h with h|h
    · exact .inl h
    · exact .inr (List.mem_of_mem_drop h)
theorem fateM_len (n rng:Int):(fateM n rng).length≤2:=by
  unfold fateM;simp only
  split
  · simp
  · split
    · simp
    · split <;> simp
theorem delM_len (P:Par) (s:Ss) (t:Int):(delM P s t).1.length≤2:=by
  unfold delM
  split
  · simp
  split
  · simp
  simp only
  split
  · exact fateM_len _ _
  split
  · simp
  · exact fateM_len _ _
theorem enter0_full {P:Par} {s:Ss} {t:Int} {x:Sg} (h:10000≤s.ent):enter0 P s t x=s:=if_pos h
theorem enter0_none {P:Par} {s:Ss} {t:Int} {x:Sg} (h:¬ 10000≤s.ent) (hc:10000<s.dat.fr.length+(delM P s t).1.length):enter0 P s t x={ s with dis:=(delM P s t).2 }:=by
  have e:chSend P.c.g s.dat t (.dat x) (delM P s t).1=none:=if_pos hc
  unfold enter0;rw [if_neg h,e]
theorem enter0_some {P:Par} {s:Ss} {t:Int} {x:Sg} (h:¬ 10000≤s.ent) (hc:s.dat.fr.length+(delM P s t).1.length≤10000):enter0 P s t x={ s with dat:=⟨insFs t s.dat.sent (.dat x) (delM P s t).1 s.dat.fr,s.dat.sent+1,if P.c.g∈(delM P s t).1 then s.dat.lost else s.dat.lost+1⟩,dis:=(delM P s t).2,ent:=s.ent+1,out0:=s.out0 ++ [(t,x)] }:=by
  have e:chSend P.c.g s.dat t (.dat x) (delM P s t).1=some ⟨insFs t s.dat.sent (.dat x) (delM P s t).1 s.dat.fr,s.dat.sent+1,if P.c.g∈(delM P s t).1 then s.dat.lost else s.dat.lost+1⟩:=if_neg (by omega)
  unfold enter0;rw [if_neg h,e]
theorem enter1_full {P:Par} {s:Ss} {t sr:Int} {C:Iv} (h:10000≤s.ent):enter1 P s t sr C=s:=if_pos h
theorem enter1_none {P:Par} {s:Ss} {t sr:Int} {C:Iv} (h:¬ 10000≤s.ent) (hc:10000<s.rep.fr.length+(delM P s t).1.length):enter1 P s t sr C={ s with dis:=(delM P s t).2 }:=by
  have e:chSend P.c.g s.rep t (.rep sr C) (delM P s t).1=none:=if_pos hc
  unfold enter1;rw [if_neg h,e]
theorem enter1_some {P:Par} {s:Ss} {t sr:Int} {C:Iv} (h:¬ 10000≤s.ent) (hc:s.rep.fr.length+(delM P s t).1.length≤10000):enter1 P s t sr C={ s with rep:=⟨insFs t s.rep.sent (.rep sr C) (delM P s t).1 s.rep.fr,s.rep.sent+1,if P.c.g∈(delM P s t).1 then s.rep.lost else s.rep.lost+1⟩,dis:=(delM P s t).2,ent:=s.ent+1,out1:=s.out1 ++ [(t,sr,C)] }:=by
  have e:chSend P.c.g s.rep t (.rep sr C) (delM P s t).1=some ⟨insFs t s.rep.sent (.rep sr C) (delM P s t).1 s.rep.fr,s.rep.sent+1,if P.c.g∈(delM P s t).1 then s.rep.lost else s.rep.lost+1⟩:=if_neg (by omega)
  unfold enter1;rw [if_neg h,e]
end Go.Step
