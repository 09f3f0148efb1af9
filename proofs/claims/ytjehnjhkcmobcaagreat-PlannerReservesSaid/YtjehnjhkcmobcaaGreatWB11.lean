/- Texts of this proof, one after the other; no conditions. -/
import Derived.Test.YtjehnjhkcmobcaaGreatWB10
import Derived.Test.YtjehnjhkcmobcaaGreatWB3
import Derived.Test.YtjehnjhkcmobcaaGreatWB8
import Derived.Test.YtjehnjhkcmobcaaGreatWB9
import Derived.Test.YtjehnjhkcmobcaaGreatWB6
import Derived.Test.YtjehnjhkcmobcaaGreatWB5
import Derived.Test.YtjehnjhkcmobcaaGreatWB2
import Derived.Test.YtjehnjhkcmobcaaGreatWB1
import Derived.Test.YtjehnjhkcmobcaaGreatWB7
import Derived.Test.YtjehnjhkcmobcaaGreatWB4
set_option linter.all false
/- The graph, and the numbers of its places. -/
namespace Go.Proofs.YtjehnjhkcmobcaaGreat
open Go.Eng Go.Step
set_option maxRecDepth 100000
set_option maxHeartbeats 64000000
theorem ea_len (qs:List Int) (cs:List Ct) (bs:List Bk) (hs:List Hd) (d:Dm) (h:VOk qs cs bs hs d):(arcsE qs cs bs hs d).length≤1000000:=by
 have:=h.len
 omega
theorem graph_spec {ρ τ σ υ:PH} {pq pc pb ph:Option Addr} {kq kc kb kh:Nat} {qs:List Int} {cs:List Ct} {bs:List Bk} {hs:List Hd} (hT:TbAt ρ τ σ υ pq pc pb ph kq kc kb kh qs cs bs hs) (bw bm kp:Nat) (pl:Option Addr) (χ:PH) (M:List (List Int × Value)) (d:Dm) (h:VOk qs cs bs hs d) (h0:chkB qs cs bs=0) (hpl:SlE encS 2 χ (.slice pl (placesA d qs.length).length kp) (placesA d qs.length)) (hM:NumAt d qs.length d.r M) :
  Makes Tryz.prog (fv 68) [.pointer (some ⟨bw,0,none⟩)] [sng bw (.cells #[.slice pq qs.length kq,.slice pc cs.length kc,.slice pb bs.length kb,.slice ph hs.length kh,int d.s,int d.d,int d.v,int d.r,int d.e,.slice pl (placesA d qs.length).length kp,.map (some bm)] 147 (0,0)),sng bm (mapS M),χ,ρ,τ,σ,υ] (fun r χ'=>∃ u,r=.agg #[int (vsN qs d),u,int (vtx d d.s d.r),int (vtx d d.d d.e)]∧OwnS 157 3 u (arcsG qs cs bs hs d).length ((arcsG qs cs bs hs d).flatMap encA) χ'):=by
 have hdm:=h.dm
 unfold okDm at hdm
 have hnq:=h.nq
 have hMl:=hM.1
 have hl1:=numAt_get hM (n:=d.s) (t:=d.r) (by omega) (by omega) (by omega) (by omega)
 have hl2:=numAt_get hM (n:=d.d) (t:=d.e) (by omega) (by omega) (by omega) (by omega)
 have hit:=fun c1=>arcs_iter hT bw bm c1 kp pl χ M d h h0 hpl hM
 have hEl:=ea_len qs cs bs hs d h
 have hplen:(((placesA d qs.length).length:Nat):Int)=vsN qs d:=placesA_len (d:=d) (by omega) qs.length
 have hone:∀ z n (xs:List Value) (χ:PH),OwnS 157 3 z n xs χ→z.oneCell'=true:=fun z n xs χ h=>by obtain ⟨_,_,rfl⟩:=h.form; rfl
 have bx26_3:=rdB bw 147 [.slice pq qs.length kq,.slice pc cs.length kc,.slice pb bs.length kb,.slice ph hs.length kh,int d.s,int d.d,int d.v,int d.r,int d.e,.slice pl (placesA d qs.length).length kp,.map (some bm)]
 have w0:=rdC bx26_3 0
 have w1:=rdC bx26_3 1
 have w2:=rdC bx26_3 2
 have w3:=rdC bx26_3 3
 have w4:=rdC bx26_3 4
 have w5:=rdC bx26_3 5
 have w6:=rdC bx26_3 6
 have w7:=rdC bx26_3 7
 have w8:=rdC bx26_3 8
 have w9:=rdC bx26_3 9
 have w10:=rdC bx26_3 10
 have wp:=rdQ (xs:=[_,_]) bx26_3
 refine spec_in (cap:=[]) Tryz.func68 rfl rfl Tryz.ntmps68 rfl envZ (fun N β=>?_)
 refine BZ ?_;refine Aa ?_;refine A4 ?_; rintro _ _ ⟨b,rfl,rfl⟩;refine Aat ?_
 revert b; intro b2
 refine DR (X:=Nat) [0,2] (fun _=>True) (fun x=>[(3,.pointer (some ⟨x,0,none⟩))]) (fun x=>[sng x (.cells #[int (vsN qs d),.slice none 0 0,int (vtx d d.s d.r),int (vtx d d.d d.e)] 75 (0,0)),sng b2 (.cells #[int 0,.slice none 0 0,int 0,int 0] 75 (0,0)),emp]) pickZ ?_ ?_
 ·refine A6 (.q 0 (.q 1 (.q 2 (.q 3 (.q 4 (.q 5 (.q 6 (.q 7 (.q 8 (.q 9 (.q 10 (.q 11 (.q 12 (.q 13 (.q 14 (.q 15 (.q 16 (.q 17 (.q 18 (.q 19 (.q 20 (.q 21 (.q 22 (.q 23 (.q 24 (.q 25 (.q 26 (.q 27 (.q 28 (.q 29 (.q 30 (.q 31 (.q 32 (.q 33 (.q 34 (.q 35 (.q 36 (.q 37 (.l 38 .e (.l 39 .b .nil)))))))))))))))))))))))))))))))))))))))) [] rfl (by kernel_rfl) Sel.nil ?_
  repeat' (first
   | (refine AI ?_)
   | (refine AQ ?_)
   | (refine AX ?_)
   | (refine BX ?_)
   | (refine B6 ?_)
   | (refine CZ ?_)
   | (refine BE ?_)
   | (refine CV ?_)
   | (focus ((refine' C1 rfl _ rfl rfl rfl rfl _; rotate_left; (focus (first|exact DN 2 [d.s,d.r] rfl rfl rfl ⟨by kernel_rfl,by kernel_rfl⟩ rfl hMl rfl hl1 (mapAtS_rd memZ)|exact DN 2 [d.d,d.e] rfl rfl rfl ⟨by kernel_rfl,by kernel_rfl⟩ rfl hMl rfl hl2 (mapAtS_rd memZ))))))
   | (focus ((refine CF ?_; refine' FW rfl _ rfl rfl _ _; rotate_left; (focus (apply DV; exact rfl; exact rfl; exact takeZ; exact oneZ; exact rfl; exact rfl)); (focus (rintro _ _ ⟨_,rfl⟩ w hw; exact hw.sel Sel.nil)); rintro _ _ ⟨rfl,rfl⟩)))
   | (refine A7 ?_)
   | (refine C5 ?_; rintro _ _ ⟨b,rfl,rfl⟩)
   | fail)
  all_goals (rw [hplen]; refine B5 _ trivial covZ selZ)
 rintro b3 _;refine Aah ?_
 refine BL (arcs_spec bw) rfl rfl Takes.nil (fun τ hτ=>by simp at hτ) rfl rfl ?_
 rintro _ _ ⟨c1,rfl,rfl⟩;refine AW (ρ:=sng c1 _) takeZ ?_;refine AE ?_;refine AM ?_
 refine D4 (gf:=131) (cap:=[.pointer (some ⟨c1,0,none⟩)]) (ps:=[45]) (X:=Value × PH) rfl Tryz.func131 rfl rfl
  (hit c1) ?_
  (fun i x=>OwnS 157 3 x.1 ((arcsE qs cs bs hs d).take i).length (((arcsE qs cs bs hs d).take i).flatMap (fun e=>encA e.a)) x.2)
  (fun x=>[sng b3 (.cells #[int (vsN qs d),x.1,int (vtx d d.s d.r),int (vtx d d.d d.e)] 75 (0,0)),sng b2 (.cells #[int 0,.slice none 0 0,int 0,int 0] 75 (0,0)),x.2]) (fun _ _=>False) (.slice none 0 0,emp) rfl takesZ (OwnS.nil _ _) ?_ ?_ ?_
 ·intro σ' hσ
  simp only [List.mem_cons,List.not_mem_nil,or_false] at hσ ⊢
  rcases hσ with h|h|h|h|h|h|h|h <;> simp [h]
 ·rintro lo r i ⟨u,σ1⟩ vs hvs hO hps has hbd hst hpe hfr
  obtain ⟨st,pe,fnn,tm,prm,asg,bdy,df⟩:=r
  simp only at hps has hbd hst hpe hfr;subst hps has hbd hst hpe;rw [List.getElem?_map] at hvs
  obtain ⟨x,hx,rfl⟩:=Option.map_eq_some_iff.1 hvs
  dsimp only at hO
  have hti:((arcsE qs cs bs hs d).take (i+1))=(arcsE qs cs bs hs d).take i ++ [x]:=by
   rw [List.take_add_one,hx]; rfl
  have hil:((arcsE qs cs bs hs d).take i).length≤1000000:=by rw [List.length_take]; omega
  simp only [hti]
  generalize (arcsE qs cs bs hs d).take i=O at hO hil
  have hu1:=hone _ _ _ _ hO
  refine yield_spec hfr rfl (by intro p hp; simp at hp; omega) putiZ (fun N' β'=>?_)
  dsimp only
  refine AA ?_;refine A4 ?_; rintro _ _ ⟨b,rfl,rfl⟩;refine AY ?_; rintro _ _ ⟨rfl,rfl⟩;refine Ag9 ?_;refine DW takeZ rfl ?_
  revert b; intro bx
  refine AW (ρ:=sng bx _) takeZ ?_
  have px:RdP (sng bx (.cells #[int x.a.f,int x.a.t,int x.a.c,int x.c,int x.t] 169 (0,0))) bx 0 [int x.a.f,int x.a.t,int x.a.c]:=rdP_sng (xs:=[int x.a.f,int x.a.t,int x.a.c,int x.c,int x.t]) rfl
  refine AM ?_;refine AA ?_;refine Aad ?_;refine Agh ?_;refine AZ ?_; rintro _ _ ⟨b,rfl,rfl⟩
  refine BH (BI (by_:=24) (s:=3) (news:=[int x.a.f,int x.a.t,int x.a.c]) rfl rfl rfl rfl rfl rfl rfl hO takeZ (cells_own memZ) rfl oneZ (by omega) (by simp only [maxLen]; omega) (by omega)) rfl rfl rfl ?_
  rintro u1 _ ⟨σ2,hO1,rfl⟩
  have hu2:=hone _ _ _ _ hO1
  refine AG ?_;refine BS ?_; rintro _ _ ⟨rfl,rfl⟩;refine Agz ?_;refine CH takeZ rsubZ selZ ⟨(u1,σ2),.inl ⟨rfl,?_,rfl⟩⟩
  dsimp only
  rw [List.length_append,List.flatMap_append];exact hO1
 ·rintro b9 ⟨u,σ1⟩ hO
  rw [List.length_map,List.take_length] at hO
  dsimp only at hO
  have hO2:OwnS 157 3 u (arcsG qs cs bs hs d).length ((arcsG qs cs bs hs d).flatMap encA) σ1:=by
   unfold arcsG;rw [List.length_map,List.flatMap_map];exact hO
  have hu1:=hone _ _ _ _ hO2
  refine A2 ?_;refine Abt ?_;refine AY ?_; rintro _ _ ⟨rfl,rfl⟩;refine AE ?_;refine E3 (v:=.agg #[int (vsN qs d),u,int (vtx d d.s d.r),int (vtx d d.d d.e)]) (Marks.cons (.there .here) .nil) ?_ rsubZ ?_ ⟨σ1,⟨u,rfl,hO2⟩,rfl⟩
  ·exact resS1 (b1:=b2) (T:=75) (v1:=[int (vsN qs d),u,int (vtx d d.s d.r),int (vtx d d.d d.e)]) rfl rfl rfl rfl (cells_own memZ)
  ·exact selZ
 ·rintro _ _ _ h; exact h.elim
theorem Graph_spec {ρ τ σ υ:PH} {pq pc pb ph:Option Addr} {kq kc kb kh:Nat} {qs:List Int} {cs:List Ct} {bs:List Bk} {hs:List Hd} (hT:TbAt ρ τ σ υ pq pc pb ph kq kc kb kh qs cs bs hs) (d:Dm) :
  Makes Tryz.prog (fv 60) [.agg #[.slice pq qs.length kq,.slice pc cs.length kc,.slice pb bs.length kb,.slice ph hs.length kh],.agg #[int d.s,int d.d,int d.v,int d.r,int d.e]] [ρ,τ,σ,υ] (fun r χ'=>if validT qs cs bs hs d=true then ∃ u,r=.tuple #[.agg #[int (vsN qs d),u,int (vtx d d.s d.r),int (vtx d d.d d.e)],int 0]∧OwnS 157 3 u (arcsG qs cs bs hs d).length ((arcsG qs cs bs hs d).flatMap encA) χ' else r=.tuple #[.agg #[int 0,.slice none 0 0,int 0,int 0],int 1]∧χ'=emp):=by
 refine spec_in (cap:=[]) Tryz.func60 rfl rfl Tryz.ntmps60 rfl envZ (fun N β=>?_)
 refine Aa ?_;refine BH (BO rfl) rfl rfl rfl ?_;rintro _ _ ⟨b1,rfl,rfl⟩;refine AW (ρ:=sng b1 _) takeZ ?_
 have ct:=rdB b1 29 [.slice pq qs.length kq,.slice pc cs.length kc,.slice pb bs.length kb,.slice ph hs.length kh]
 have ct0:=rdC ct 0
 have ct1:=rdC ct 1
 have ct2:=rdC ct 2
 have ct3:=rdC ct 3
 have ctp:=rdQ (xs:=[_,_]) ct
 refine BH (BO rfl) rfl rfl rfl ?_;rintro _ _ ⟨b2,rfl,rfl⟩;refine AW (ρ:=sng b2 _) takeZ ?_
 have cd:=rdB b2 31 [int d.s,int d.d,int d.v,int d.r,int d.e]
 have cd0:=rdC cd 0
 have cd1:=rdC cd 1
 have cd2:=rdC cd 2
 have cd3:=rdC cd 3
 have cd4:=rdC cd 4
 refine BZ ?_;refine A4 ?_; rintro _ _ ⟨b,rfl,rfl⟩;refine Aaa ?_;refine Acu ?_
 revert b; intro b4
 refine BL (build_spec hT d) rfl rfl Takes.nil rdZ rfl rfl ?_;rintro _ H' (⟨hv,rfl,rfl⟩|⟨hv,bw,bm,pl0,χ,M,rfl,rfl,hO,hM⟩)
 ·refine AB ?_
  refine Ahj ?_;refine Aah ?_;refine Afo ?_;refine BY ?_;refine AY ?_; rintro _ _ ⟨rfl,rfl⟩;refine Aaa ?_
  exact AO (resSE (b1:=b4) (T:=75) (v1:=[int 0,.slice none 0 0,int 0,int 0]) rfl rfl rfl rfl rfl (cells_own memZ)) rsubZ selZ ⟨emp,by dsimp only; rw [if_neg (by simp [hv])]; exact ⟨rfl,rfl⟩,rfl⟩
 have h:=vok hv
 have h0:=vokB hv
 have hdm:=h.dm
 unfold okDm at hdm
 have hnq:=h.nq
 obtain ⟨pl,kp,rfl⟩:=hO.form
 have hpl:SlE encS 2 χ (.slice pl (placesA d qs.length).length kp) (placesA d qs.length):=hO.at
 refine AW (ρ:=sng bw _) takeZ ?_;refine AW (ρ:=sng bm _) takeZ ?_;refine AW (ρ:=χ) takeZ ?_
 have bx204_3:=rdB bw 147 [.slice pq qs.length kq,.slice pc cs.length kc,.slice pb bs.length kb,.slice ph hs.length kh,int d.s,int d.d,int d.v,int d.r,int d.e,.slice pl (placesA d qs.length).length kp,.map (some bm)]
 have w0:=rdC bx204_3 0
 have w1:=rdC bx204_3 1
 have w2:=rdC bx204_3 2
 have w3:=rdC bx204_3 3
 have w4:=rdC bx204_3 4
 have w5:=rdC bx204_3 5
 have w6:=rdC bx204_3 6
 have w7:=rdC bx204_3 7
 have w8:=rdC bx204_3 8
 have w9:=rdC bx204_3 9
 have w10:=rdC bx204_3 10
 have hg:=graph_spec hT bw bm kp pl χ M d h h0 hpl hM
 refine Adi ?_;refine Acw ?_;refine Aac ?_;refine BV hg rfl rfl rdZ rfl rfl ?_;rintro _ σ1 ⟨u,rfl,hO1⟩
 have hu1:u.oneCell'=true:=by obtain ⟨_,_,rfl⟩:=hO1.form; rfl
 refine AY ?_; rintro _ _ ⟨rfl,rfl⟩;refine Aaa ?_
 exact AO (resSE (b1:=b4) (T:=75) (v1:=[int (vsN qs d),u,int (vtx d d.s d.r),int (vtx d d.d d.e)]) rfl rfl rfl rfl rfl (cells_own memZ)) rsubZ selZ ⟨σ1,by dsimp only; rw [if_pos hv]; exact ⟨u,rfl,hO1⟩,rfl⟩
theorem Shipments_spec {ρ τ σ υ:PH} {pq pc pb ph:Option Addr} {kq kc kb kh:Nat} {qs:List Int} {cs:List Ct} {bs:List Bk} {hs:List Hd} (hT:TbAt ρ τ σ υ pq pc pb ph kq kc kb kh qs cs bs hs) (d:Dm) (ω:PH) (u0:Value) (fl:List Int) (hu:IntsAt ω u0 fl) :
  Makes Tryz.prog (fv 33) [.agg #[.slice pq qs.length kq,.slice pc cs.length kc,.slice pb bs.length kb,.slice ph hs.length kh],.agg #[int d.s,int d.d,int d.v,int d.r,int d.e],u0] [ρ,τ,σ,υ,ω] (fun r χ=>∃ u,r=.tuple #[u,int (shipsE qs cs bs hs d fl)]∧OwnS 62 3 u (shipsR qs cs bs hs d fl).length ((shipsR qs cs bs hs d fl).flatMap encX) χ):=by
 obtain ⟨pf,kf,rfl,hrf⟩:=hu.val Eng.encI_len
 refine spec_in (cap:=[]) Tryz.func33 rfl rfl Tryz.ntmps33 rfl envZ (fun N β=>?_)
 refine Aa ?_;refine BH (BO rfl) rfl rfl rfl ?_;rintro _ _ ⟨b1,rfl,rfl⟩;refine AW (ρ:=sng b1 _) takeZ ?_
 have ct:=rdB b1 29 [.slice pq qs.length kq,.slice pc cs.length kc,.slice pb bs.length kb,.slice ph hs.length kh]
 have ct0:=rdC ct 0
 have ct1:=rdC ct 1
 have ct2:=rdC ct 2
 have ct3:=rdC ct 3
 have ctp:=rdQ (xs:=[_,_]) ct
 refine BH (BO rfl) rfl rfl rfl ?_;rintro _ _ ⟨b2,rfl,rfl⟩;refine AW (ρ:=sng b2 _) takeZ ?_
 have cd:=rdB b2 31 [int d.s,int d.d,int d.v,int d.r,int d.e]
 have cd0:=rdC cd 0
 have cd1:=rdC cd 1
 have cd2:=rdC cd 2
 have cd3:=rdC cd 3
 have cd4:=rdC cd 4
 refine BH (D5 rfl rfl) rfl rfl rfl ?_;rintro _ _ ⟨bf,rfl,rfl⟩;refine AW (ρ:=sng bf _) takeZ ?_
 have bx38_3:=rdB bf 22 [.slice pf fl.length kf]
 have cf:=rdC bx38_3 0
 refine BZ ?_;refine Aal ?_;refine Acu ?_;refine BL (build_spec hT d) rfl rfl Takes.nil rdZ rfl rfl ?_;rintro _ H' (⟨hv,rfl,rfl⟩|⟨hv,bw,bm,pl0,χ,M,rfl,rfl,hO,hM⟩)
 ·have hE:shipsE qs cs bs hs d fl=1:=by unfold shipsE; rw [if_neg (by simp [hv])]
  have hR:shipsR qs cs bs hs d fl=[]:=by unfold shipsR; rw [hE,if_neg (by omega)]
  rw [hE,hR];refine Adi ?_;refine Afo ?_;refine Aal ?_;exact AO (res2 rfl rfl rfl) rsubZ selZ ⟨emp,⟨_,rfl,OwnS.nil _ _⟩,rfl⟩
 have hEv:shipsE qs cs bs hs d fl=(Go.Flow.valueSpec (vsN qs d) (arcsG qs cs bs hs d) fl (vtx d d.s d.r) (vtx d d.d d.e)).2:=by unfold shipsE; rw [if_pos hv]
 have h:=vok hv
 have h0:=vokB hv
 have hdm:=h.dm
 unfold okDm at hdm
 have hnq:=h.nq
 obtain ⟨pl,kp,rfl⟩:=hO.form
 have hpl:SlE encS 2 χ (.slice pl (placesA d qs.length).length kp) (placesA d qs.length):=hO.at
 refine AW (ρ:=sng bw _) takeZ ?_;refine AW (ρ:=sng bm _) takeZ ?_;refine AW (ρ:=χ) takeZ ?_
 have bx82_3:=rdB bw 147 [.slice pq qs.length kq,.slice pc cs.length kc,.slice pb bs.length kb,.slice ph hs.length kh,int d.s,int d.d,int d.v,int d.r,int d.e,.slice pl (placesA d qs.length).length kp,.map (some bm)]
 have w0:=rdC bx82_3 0
 have w1:=rdC bx82_3 1
 have w2:=rdC bx82_3 2
 have w3:=rdC bx82_3 3
 have w4:=rdC bx82_3 4
 have w5:=rdC bx82_3 5
 have w6:=rdC bx82_3 6
 have w7:=rdC bx82_3 7
 have w8:=rdC bx82_3 8
 have w9:=rdC bx82_3 9
 have w10:=rdC bx82_3 10
 have hg:=graph_spec hT bw bm kp pl χ M d h h0 hpl hM
 have hit:=fun c1=>arcs_iter hT bw bm c1 kp pl χ M d h h0 hpl hM
 have hEl:=ea_len qs cs bs hs d h
 have hAl:(arcsG qs cs bs hs d).length=(arcsE qs cs bs hs d).length:=by unfold arcsG; rw [List.length_map]
 have hone:∀ z n (xs:List Value) (χ:PH),OwnS 62 3 z n xs χ→z.oneCell'=true:=fun z n xs χ h=>by obtain ⟨_,_,rfl⟩:=h.form; rfl
 refine Adi ?_;refine Acw ?_;refine Aac ?_;refine BV hg rfl rfl rdZ rfl rfl ?_;rintro _ σg ⟨ug,rfl,hOg⟩
 have hAt:ArcsAt σg ug (arcsG qs cs bs hs d):=hOg.at
 obtain ⟨pg,kg,rfl⟩:=hOg.form
 refine AW (ρ:=σg) takeZ ?_;refine A4 ?_; rintro _ _ ⟨b,rfl,rfl⟩;refine AY ?_; rintro _ _ ⟨rfl,rfl⟩;refine Afg ?_;refine AF ?_;refine Afc ?_
 revert b; intro bg
 refine AW (ρ:=sng bg _) takeZ ?_
 have bx137_3:=rdB bg 75 [int (vsN qs d),.slice pg (arcsG qs cs bs hs d).length kg,int (vtx d d.s d.r),int (vtx d d.d d.e)]
 have gg0:=rdC bx137_3 0
 have gg1:=rdC bx137_3 1
 have gg2:=rdC bx137_3 2
 have gg3:=rdC bx137_3 3
 have hval:=flowValue_spec σg ω _ _ (vsN qs d) (vtx d d.s d.r) (vtx d d.d d.e) (arcsG qs cs bs hs d) fl hAt hu (by omega)
 skip
 refine BC hval rfl rfl rdZ rfl rfl ?_;rintro _ rfl;rw [← hEv]
 generalize (Go.Flow.valueSpec (vsN qs d) (arcsG qs cs bs hs d) fl (vtx d d.s d.r) (vtx d d.d d.e)).1=vv
 by_cases hz:shipsE qs cs bs hs d fl=0
 rotate_left
 ·have hR:shipsR qs cs bs hs d fl=[]:=by unfold shipsR; rw [if_neg hz]
  rw [hR];refine Adn ?_;refine Ag6 ?_;exact AO (res2 rfl rfl rfl) rsubZ selZ ⟨emp,⟨_,rfl,OwnS.nil _ _⟩,rfl⟩
 have hR:shipsR qs cs bs hs d fl=shipsF (arcsE qs cs bs hs d) fl:=by unfold shipsR; rw [if_pos hz]
 have hfl:=shipsE_len hv hz
 rw [hz,hR];refine Adn ?_;refine Abh ?_;refine Aa ?_;refine CK ?_; rintro _ _ ⟨b,rfl,rfl⟩;refine AE ?_;refine Aa ?_;refine CK ?_; rintro _ _ ⟨b,rfl,rfl⟩;refine BS ?_; rintro _ _ ⟨rfl,rfl⟩;refine AE ?_;refine Aah ?_
 revert b; intro b14
 revert b; intro b13
 refine BL (arcs_spec bw) rfl rfl Takes.nil (fun τ hτ=>by simp at hτ) rfl rfl ?_
 rintro _ _ ⟨c1,rfl,rfl⟩;refine AW (ρ:=sng c1 _) takeZ ?_;refine AE ?_;refine AM ?_
 refine D4 (gf:=131) (cap:=[.pointer (some ⟨c1,0,none⟩)]) (ps:=[44]) (X:=Nat × Value × PH) rfl Tryz.func131 rfl rfl
  (hit c1) ?_
  (fun i x=>x.1=i∧OwnS 62 3 x.2.1 (shipsF ((arcsE qs cs bs hs d).take i) (fl.take i)).length ((shipsF ((arcsE qs cs bs hs d).take i) (fl.take i)).flatMap encX) x.2.2)
  (fun x=>[sng b14 (.cells #[int x.1] 3 (0,0)),sng b13 (.cells #[x.2.1] 38 (0,0)),x.2.2]) (fun _ _=>False) (0,.slice none 0 0,emp) rfl takesZ ⟨rfl,OwnS.nil _ _⟩ ?_ ?_ ?_
 ·intro σ' hσ
  simp only [List.mem_cons,List.not_mem_nil,or_false] at hσ ⊢
  rcases hσ with h|h|h|h|h|h|h|h <;> simp [h]
 ·rintro lo r i ⟨i',u,σ1⟩ vs hvs ⟨hi',hO1⟩ hps has hbd hst hpe hfr
  obtain ⟨st,pe,fnn,tm,prm,asg,bdy,df⟩:=r
  simp only at hps has hbd hst hpe hfr;subst hps has hbd hst hpe;rw [List.getElem?_map] at hvs
  obtain ⟨x,hx,rfl⟩:=Option.map_eq_some_iff.1 hvs
  dsimp only at hi' hO1
  subst hi'
  have hil:=(List.getElem?_eq_some_iff.1 hx).1
  have hy:=List.getElem?_eq_getElem (show i'<fl.length by omega)
  have hnx:=shipsF_next hfl hx hy
  obtain ⟨bo,oo,epf,gf⟩:=hrf.int hy
  have hsl:=shipsF_len ((arcsE qs cs bs hs d).take i') (fl.take i')
  rw [List.length_take] at hsl;simp only [hnx]
  generalize fl[i']=y at hy gf hnx
  generalize shipsF ((arcsE qs cs bs hs d).take i') (fl.take i')=O at hO1 hsl
  have hu1:=hone _ _ _ _ hO1
  subst epf
  refine yield_spec hfr rfl (by intro p hp; simp at hp; omega) putiZ (fun N' β'=>?_)
  dsimp only
  refine AA ?_;refine A4 ?_; rintro _ _ ⟨b,rfl,rfl⟩;refine AY ?_; rintro _ _ ⟨rfl,rfl⟩;refine Ag9 ?_;refine DW takeZ rfl ?_
  revert b; intro bx
  refine AW (ρ:=sng bx _) takeZ ?_
  have bx242_3:=rdB bx 169 [int x.a.f,int x.a.t,int x.a.c,int x.c,int x.t]
  have px0:=rdC bx242_3 0
  have px1:=rdC bx242_3 1
  have px2:=rdC bx242_3 2
  have px3:=rdC bx242_3 3
  have px4:=rdC bx242_3 4
  by_cases hc:0≤x.c
  ·by_cases hy0:0<y
   ·rw [if_pos ⟨hc,hy0⟩]
    refine AM ?_;refine AC ?_;refine Afr ?_;refine AB ?_;refine AF ?_;refine AF ?_;refine Acb ?_;refine CT ?_;refine Aez ?_
    refine A6 (.q 0 (.q 1 (.q 2 (.q 3 (.q 4 (.q 5 (.q 6 (.q 7 (.q 8 (.q 9 (.l 10 .e (.l 11 .b (.l 12 .b .nil))))))))))))) [] rfl (by kernel_rfl) Sel.nil ?_
    refine AQ ?_;refine Adl ?_;refine AQ ?_;refine AQ ?_;refine Aco ?_;refine CV ?_;refine BF ?_; rintro _ _ ⟨b,rfl,rfl⟩
    refine CF (a_b rfl (BI (by_:=24) (s:=3) (news:=[int x.c,int x.t,int y]) rfl rfl rfl rfl rfl rfl rfl hO1 takeZ (cells_own memZ) rfl oneZ (by omega) (by simp only [maxLen]; omega) (by omega)) rfl rfl rfl (fun _ _ _ w hw=>hw.sel Sel.nil) ?_)
    rintro u1 _ ⟨σ2,hO2,rfl⟩
    have hu2:=hone _ _ _ _ hO2
    refine D0 ?_; rintro _ _ ⟨rfl,rfl⟩;refine A7 ?_;refine AA ?_;refine AF ?_;refine A9 ?_;refine BS ?_; rintro _ _ ⟨rfl,rfl⟩;refine Agz ?_;refine CH takeZ rsubZ selZ ⟨(i'+1,u1,σ2),.inl ⟨rfl,⟨rfl,?_⟩,rfl⟩⟩
    dsimp only
    rw [List.length_append,List.flatMap_append];exact hO2
   ·rw [if_neg (fun h=>hy0 h.2),List.append_nil]
    refine AM ?_;refine AC ?_;refine Afr ?_;refine AB ?_;refine AF ?_;refine AF ?_;refine Acb ?_;refine B7 ?_;refine Aem ?_;refine AA ?_;refine AF ?_;refine A9 ?_;refine BS ?_; rintro _ _ ⟨rfl,rfl⟩;refine Agz ?_;exact CH takeZ rsubZ selZ ⟨(i'+1,u,σ1),.inl ⟨rfl,⟨rfl,hO1⟩,rfl⟩⟩
  ·rw [if_neg (fun h=>hc h.1),List.append_nil]
   refine AM ?_;refine AC ?_;refine Aas ?_;refine BP ?_;refine Aa4 ?_;refine Ad7 ?_;refine AA ?_;refine AF ?_;refine A9 ?_;refine BS ?_; rintro _ _ ⟨rfl,rfl⟩;refine Agz ?_;exact CH takeZ rsubZ selZ ⟨(i'+1,u,σ1),.inl ⟨rfl,⟨rfl,hO1⟩,rfl⟩⟩
 ·rintro b9 ⟨i',u,σ1⟩ ⟨_,hO1⟩
  rw [List.length_map,List.take_length,← hfl,List.take_length] at hO1
  dsimp only at hO1
  have hu1:=hone _ _ _ _ hO1
  refine A2 ?_;refine Acz ?_;refine Aal ?_;refine E3 (v:=.tuple #[u,int 0]) (Marks.cons .here .nil) ?_ rsubZ ?_ ⟨σ1,⟨u,rfl,hO1⟩,rfl⟩
  ·exact res2 rfl rfl rfl
  ·exact selZ
 ·rintro _ _ _ h; exact h.elim
abbrev Sq:=(Option Addr × Nat) × List (Int × Int)
def encQ (x:Sq):List Value:=[.slice x.1.1 x.2.length x.1.2]
theorem encQ_len (x:Sq):(encQ x).length=1:=rfl
abbrev cuL (L:List Sq):Cu:=L.map (fun x=>x.2)
def CutL (γ κ:PH) (v:Value) (L:List Sq):Prop:=SlE encQ 1 γ v L∧∀ x∈L,SpAt κ (.slice x.1.1 x.2.length x.1.2) x.2∧x.2.length≤9223372036854775807
theorem sideNext_spec (ρ:PH) (v:Value) (l:Iv) (b p:Nat) (hv:SpAt ρ v l) (hl:l.length≤4611686018427387903) (hp:p≤2*l.length) :
  Ans Tryz.prog (fv 207) [.pointer (some ⟨b,0,none⟩)] [sng b (.cells #[v,int ((p / 2:Nat):Int),.bool (oddB p)] 294 (0,0)),ρ] (fun r=>r=.tuple #[int ((tog l).getD p 0),.bool (decide (p<2*l.length))]):=by
 obtain ⟨q,c,rfl,hr⟩:=hv.val encS_len
 have hod:=oddB_cases p
 obtain ⟨i,hi⟩:∃ i,p / 2=i:=⟨_,rfl⟩
 rw [hi] at hod ⊢
 have ct:=rdB b 294 [.slice q l.length c,int ((i:Nat):Int),.bool (oddB p)]
 have ct0:=rdC ct 0
 have ct1:=rdC ct 1
 have ct2:=rdC ct 2
 refine spec_in (cap:=[]) Tryz.func207 rfl rfl Tryz.ntmps207 rfl envZ (fun N β=>?_)
 by_cases h0:p=2*l.length
 ·have hR:(tog l).getD p 0=0:=by rw [List.getD_eq_getElem?_getD,List.getElem?_eq_none (by rw [tog_len]; omega)]; rfl
  rw [hR,decide_eq_false (by omega)]
  have hil:i=l.length:=by omega
  refine Ad5 ?_;refine Aap ?_;refine AC ?_
  refine A6 P6Z [] rfl (by kernel_rfl) selZ ?_
  refine AI ?_;refine Ag8 ?_;refine CZ ?_;refine DP ?_;refine B4 ?_;refine Ab5 ?_;refine Ad5 ?_;exact AO (res2 rfl rfl rfl) rsubZ selZ ⟨rfl,rfl⟩
 have hil:i<l.length:=by omega
 obtain ⟨g1,g2⟩:=tog_get l i _ (List.getElem?_eq_getElem hil)
 rw [decide_eq_true (show p<2*l.length by omega)]
 obtain ⟨b4,o4,rfl,hrd,x0,x1⟩:=spRow hr (List.getElem?_eq_getElem hil)
 rcases hod with ⟨ho,hp2⟩|⟨ho,hp2⟩
 ·have hR:(tog l).getD p 0=l[i].2:=by rw [List.getD_eq_getElem?_getD,hp2,g2]; rfl
  rw [hR];rw [ho] at ct ct0 ct1 ct2 ⊢
  generalize l[i]=x at hrd x0 x1
  refine Ad5 ?_;refine Aap ?_;refine AC ?_
  refine A6 P6Z [] rfl (by kernel_rfl) selZ ?_
  refine AI ?_;refine Ag8 ?_;refine CZ ?_;refine C7 ?_;refine Adr ?_;refine AK rfl ?_;refine Aac ?_;refine Af0 ?_;refine Aaa ?_;refine AL rfl ?_;refine AC ?_
  refine A6 P3Z [] rfl (by kernel_rfl) selZ ?_
  refine AI ?_;refine Ag8 ?_;refine BB ?_;refine Aby ?_;refine B4 ?_;refine Adr ?_
  skip
  exact AO (res2 rfl rfl rfl) rsubZ selZ ⟨rfl,rfl⟩
 ·have hR:(tog l).getD p 0=l[i].1:=by rw [List.getD_eq_getElem?_getD,hp2,g1]; rfl
  rw [hR];rw [ho] at ct ct0 ct1 ct2 ⊢
  generalize l[i]=x at hrd x0 x1
  refine Ad5 ?_;refine Aap ?_;refine AC ?_
  refine A6 P6Z [] rfl (by kernel_rfl) selZ ?_
  refine AI ?_;refine Ag8 ?_;refine CZ ?_;refine C7 ?_;refine Adr ?_;refine AK rfl ?_;refine Aac ?_;refine Af0 ?_;refine Aaa ?_;refine Abd ?_;refine A2 ?_;refine AC ?_
  refine A6 P3Z [] rfl (by kernel_rfl) selZ ?_
  refine AI ?_;refine Ag8 ?_;refine BB ?_;refine Ac ?_;refine B4 ?_;refine Adr ?_
  skip
  exact AO (res2 rfl rfl rfl) rsubZ selZ ⟨rfl,rfl⟩
theorem sidePass_spec (ρ:PH) (v:Value) (l:Iv) (b p:Nat) (t:Int) (hv:SpAt ρ v l) (hl:l.length≤4611686018427387903) (hp:p≤2*l.length) :
  Eng.Spec Tryz.prog (fv 208) [.pointer (some ⟨b,0,none⟩),int t] [ρ] [sng b (.cells #[v,int ((p / 2:Nat):Int),.bool (oddB p)] 294 (0,0))] (fun r H'=>r=.tuple #[]∧H'=[sng b (.cells #[v,int ((stp (tog l) t p / 2:Nat):Int),.bool (oddB (stp (tog l) t p))] 294 (0,0))]):=by
 have hn:=sideNext_spec ρ v l b p hv hl hp
 obtain ⟨q,c,rfl,hr⟩:=hv.val encS_len
 refine spec_in (cap:=[]) Tryz.func208 rfl rfl Tryz.ntmps208 rfl envZ (fun N β=>?_)
 refine Aah ?_;refine BC hn rfl rfl rdZ rfl rfl ?_;rintro _ rfl
 by_cases h1:p<2*l.length
 rotate_left
 ·have hs:stp (tog l) t p=p:=by unfold stp; rw [if_neg (by rw [tog_len]; omega)]
  rw [hs,decide_eq_false h1];refine Adn ?_;refine BN ?_;refine Acq ?_;refine Aag ?_;exact AO (res0 rfl) rsubZ selZ ⟨rfl,rfl⟩
 rw [decide_eq_true h1]
 by_cases h2:(tog l).getD p 0=t
 rotate_left
 ·have hs:stp (tog l) t p=p:=by unfold stp; rw [if_neg (fun h=>h2 h.2)]
  rw [hs]
  generalize (tog l).getD p 0=z at h2
  refine Adn ?_;refine BN ?_;refine Abp ?_;refine CJ ?_;refine AN ?_;refine Aag ?_;exact AO (res0 rfl) rsubZ selZ ⟨rfl,rfl⟩
 have hs:stp (tog l) t p=p+1:=by unfold stp; rw [if_pos ⟨by rw [tog_len]; exact h1,h2⟩]
 rw [hs,h2]
 have hod:=oddB_cases p
 have hi2:(p+1) / 2=if oddB p=true then p / 2+1 else p / 2:=by
  rcases hod with ⟨ho,hp2⟩|⟨ho,hp2⟩
  ·rw [if_pos ho]; omega
  ·rw [if_neg (by rw [ho]; simp)]; omega
 rw [hi2,oddB_succ]
 obtain ⟨i,hi⟩:∃ i,p / 2=i:=⟨_,rfl⟩
 rw [hi] at hod ⊢;clear hn
 rcases hod with ⟨ho,hp2⟩|⟨ho,hp2⟩
 ·rw [ho,if_pos rfl]
  refine Adn ?_;refine BN ?_;refine Abp ?_;refine BK ?_;refine Abn ?_;refine Aah ?_;refine Af0 ?_;refine Aag ?_;refine Ade ?_;refine Af0 ?_;refine A9 ?_;refine CG ?_;refine AG ?_;refine BS ?_; rintro _ _ ⟨rfl,rfl⟩;refine AE ?_;refine Ac3 ?_;refine Af0 ?_;refine BN ?_;refine CG ?_;refine AG ?_;refine BS ?_; rintro _ _ ⟨rfl,rfl⟩;refine AE ?_;exact C6 (res0 rfl) rsubZ selZ ⟨rfl,rfl⟩
 ·rw [ho,if_neg (by simp)]
  refine Adn ?_;refine BN ?_;refine Abp ?_;refine BK ?_;refine Abn ?_;refine Aah ?_;refine Af0 ?_;refine Aak ?_;refine Ac3 ?_;refine Af0 ?_;refine BN ?_;refine CG ?_;refine AG ?_;refine BS ?_; rintro _ _ ⟨rfl,rfl⟩;refine AE ?_;exact C6 (res0 rfl) rsubZ selZ ⟨rfl,rfl⟩
def encPt (x:Int × Bool × Bool):List Value:=[int x.1,.agg #[.bool x.2.1,.bool x.2.2]]
theorem points_iter (ρ τ:PH) (va vb:Value) (a b:Iv) (b1 b2:Nat) (ha:SpAt ρ va a) (hb:SpAt τ vb b) (hla:a.length≤1000000) (hlb:b.length≤1000000) :
  Iter Tryz.prog (.func (.func 206) #[] #[.pointer (some ⟨b1,0,none⟩),.pointer (some ⟨b2,0,none⟩)]) [sng b1 (.cells #[va] 148 (0,0)),sng b2 (.cells #[vb] 148 (0,0)),ρ,τ] ((mrg (tog a) false (tog b) false).map encPt):=by
 intro y S Own Inv Stop Ry hy hyl σ0 hI0
 obtain ⟨yl,rfl⟩:=hyl
 have hna:=fun bx p hp=>sideNext_spec ρ va a bx p ha (by omega) hp
 have hnb:=fun bx p hp=>sideNext_spec τ vb b bx p hb (by omega) hp
 have hpa:=fun bx p t hp=>sidePass_spec ρ va a bx p t ha (by omega) hp
 have hpb:=fun bx p t hp=>sidePass_spec τ vb b bx p t hb (by omega) hp
 obtain ⟨qa,ca,rfl,hra⟩:=ha.val encS_len
 obtain ⟨qb,cb,rfl,hrb⟩:=hb.val encS_len
 have bx20_3:=rdB b1 148 [.slice qa a.length ca]
 have c1:=rdC bx20_3 0
 have bx21_3:=rdB b2 148 [.slice qb b.length cb]
 have c2:=rdC bx21_3 0
 have la:=tog_len a
 have lb:=tog_len b
 simp only [List.cons_append,List.nil_append]
 refine spec_in (cap:=[.pointer (some ⟨b1,0,none⟩),.pointer (some ⟨b2,0,none⟩)]) Tryz.func206 rfl rfl Tryz.ntmps206 rfl envZ (fun N β=>?_)
 refine AC ?_
 refine DR (X:=Nat × Nat) [0,1,2] (fun _=>True) (fun x=>[(4,.pointer (some ⟨x.1,0,none⟩)),(5,.pointer (some ⟨x.2,0,none⟩))]) (fun x=>sng x.2 (.cells #[.slice qb b.length cb,int ((0 / 2:Nat):Int),.bool (oddB 0)] 294 (0,0))::sng x.1 (.cells #[.slice qa a.length ca,int ((0 / 2:Nat):Int),.bool (oddB 0)] 294 (0,0))::Own σ0) pickZ ?_ ?_
 ·refine A6 (.q 0 (.q 1 (.q 3 (.q 4 (.l2 2 .e (.q 6 (.l 5 .e (.q 7 .nil))) 5 .e (.l 2 .e (.q 6 (.q 7 .nil)))))))) [] rfl (by kernel_rfl) Sel.nil ?_
  repeat' (first
   | (refine B4 ?_)
   | (refine AQ ?_)
   | (refine CV ?_)
   | (refine A7 ?_)
   | (refine DS ?_ ?_)
   | (refine GJ ?_; rintro _ _ ⟨b,rfl,rfl⟩)
   | (refine HM ?_; rintro _ _ ⟨b,rfl,rfl⟩)
   | fail)
  ·refine B5 (_,_) trivial covZ ?_
   exact Sel.refl
  ·refine DD (List.Perm.swap _ _ _) ?_
   refine B5 (_,_) trivial covZ ?_;exact Sel.refl
 rintro ⟨bx,by_⟩ _
 dsimp only
 refine AM ?_
 refine BA [0,1,2,4,5] (X:=Nat × Nat × Nat × S) (0,0,0,σ0) (fun x=>x.1≤(mrg (tog a) false (tog b) false).length∧x.2.1≤2*a.length∧x.2.2.1≤2*b.length∧(mrg (tog a) false (tog b) false).drop x.1=mrg ((tog a).drop x.2.1) (oddB x.2.1) ((tog b).drop x.2.2.1) (oddB x.2.2.1)∧Inv x.1 x.2.2.2) (fun _=>[]) (fun x=>sng by_ (.cells #[.slice qb b.length cb,int ((x.2.2.1 / 2:Nat):Int),.bool (oddB x.2.2.1)] 294 (0,0))::sng bx (.cells #[.slice qa a.length ca,int ((x.2.1 / 2:Nat):Int),.bool (oddB x.2.1)] 294 (0,0))::Own x.2.2.2) (fun x=>(2*a.length-x.2.1)+(2*b.length-x.2.2.1)) pickZ ⟨by dsimp only; omega,by dsimp only; omega,by dsimp only; omega,rfl,hI0⟩ covZ Sel.refl ?_
 rintro ⟨k,p,q,σ'⟩ ⟨hk,hp,hq,hS,hI⟩
 dsimp only at hk hp hq hS hI ⊢
 have h1:=hna bx p hp
 have h2:=hnb by_ q hq
 refine AM ?_;refine Aac ?_;refine BC h1 rfl rfl rdZ rfl rfl ?_;rintro _ rfl;refine Adn ?_;refine BC h2 rfl rfl rdZ rfl rfl ?_;rintro _ rfl
 generalize hm:(tog a).getD p 0=m
 generalize hn:(tog b).getD q 0=n
 by_cases h1:p<2*a.length
 ·rw [decide_eq_true h1]
  by_cases h2:q<2*b.length∧n<m
  ·have hX:nxtT (tog a) (tog b) p q=n:=by unfold nxtT; rw [if_pos (by omega),if_pos (by rw [hm,hn]; omega),hn]
   rw [decide_eq_true h2.1]
   have h2n:=h2.2
   have hlive:p<(tog a).length∨q<(tog b).length:=by omega
   have hS':=mrg_at (by omega) (by omega) hlive
   have hgo:=stp_go hlive
   rw [hX] at hS' hgo;rw [← hS] at hS'
   obtain ⟨g1,g2,g3⟩:=drop_head hS'
   have p1:=stp_le (A:=tog a) (t:=n) (p:=p) (by omega)
   have q1:=stp_le (A:=tog b) (t:=n) (p:=q) (by omega)
   have hy1:=hy k σ' (encPt (n,oddB (stp (tog a) n p),oddB (stp (tog b) n q))) (by rw [List.getElem?_map,g1]; rfl) hI
   have k1:=hpa bx p n hp
   have k2:=hpb by_ q n hq
   generalize stp (tog a) n p=p' at g2 hy1 k1 p1 hgo
   generalize stp (tog b) n q=q' at g2 hy1 k2 q1 hgo
   refine Adi ?_;refine BN ?_;refine Aa4 ?_;refine Abn ?_;refine Aca ?_;refine Aah ?_;refine BN ?_;refine Aao ?_;refine Abp ?_;refine BD ?_;refine AR ?_;refine AN ?_;refine Aag ?_;refine Ade ?_;refine Ae4 ?_;refine BL k1 rfl rfl takesZ rdZ rfl rfl ?_;rintro _ _ ⟨rfl,rfl⟩;refine AE ?_;refine Aay ?_;refine BL k2 rfl rfl takesZ rdZ rfl rfl ?_;rintro _ _ ⟨rfl,rfl⟩;refine Aat ?_
   refine A6 (.q 0 (.q 1 (.q 2 (.q 3 (.q 4 (.q 5 (.q 6 (.q 7 (.q 8 (.q 9 (.q 10 (.l 11 .b (.q 12 .nil))))))))))))) [] rfl (by kernel_rfl) Sel.nil ?_
   refine Ab3 ?_;refine Ag8 ?_
   focus ((refine' C1 rfl _ rfl rfl rfl rfl _; rotate_left; (focus (apply EE; exact rfl; exact rfl; exact rfl; exact rfl; exact rfl; exact rfl; exact rfl))))
   refine CF (EQ rfl hy1 rfl rfl (Takes.skip (Takes.skip Takes.all)) (fun τ hτ=>.inl (by simp [hτ])) rfl rfl (fun _ _ _ w hw=>hw.sel Sel.nil) ?_)
   rintro _ H' ⟨σ1,rfl,⟨rfl,hI1⟩|⟨rfl,hSt⟩⟩
   ·refine E9 (H':=_::_::Own σ1) (List.perm_append_comm (l₂:=[_,_])) ?_
    refine C8 ?_;refine Ab8 ?_;refine A2 ?_
    exact AT (k+1,p',q',σ1) ⟨by dsimp only; omega,by dsimp only; omega,by dsimp only; omega,g2,hI1⟩ (by dsimp only; omega) covZ Sel.refl
   ·refine C8 ?_
    refine Ab5 ?_
    exact AO (res0 rfl) (fun _ h=>h) Sel.left ⟨σ1,rfl,.inr hSt⟩
  ·have hX:nxtT (tog a) (tog b) p q=m:=by unfold nxtT; rw [if_pos (by omega),if_neg (by rw [hm,hn]; omega),hm]
   by_cases h3:q<2*b.length
   ·rw [decide_eq_true h3]
    have h2n:¬ n<m:=fun h=>h2 ⟨h3,h⟩
    have hlive:p<(tog a).length∨q<(tog b).length:=by omega
    have hS':=mrg_at (by omega) (by omega) hlive
    have hgo:=stp_go hlive
    rw [hX] at hS' hgo;rw [← hS] at hS'
    obtain ⟨g1,g2,g3⟩:=drop_head hS'
    have p1:=stp_le (A:=tog a) (t:=m) (p:=p) (by omega)
    have q1:=stp_le (A:=tog b) (t:=m) (p:=q) (by omega)
    have hy1:=hy k σ' (encPt (m,oddB (stp (tog a) m p),oddB (stp (tog b) m q))) (by rw [List.getElem?_map,g1]; rfl) hI
    have k1:=hpa bx p m hp
    have k2:=hpb by_ q m hq
    generalize stp (tog a) m p=p' at g2 hy1 k1 p1 hgo
    generalize stp (tog b) m q=q' at g2 hy1 k2 q1 hgo
    refine Adi ?_;refine BN ?_;refine Aa4 ?_;refine Abn ?_;refine Aca ?_;refine Aah ?_;refine BN ?_;refine Aao ?_;refine Abp ?_;refine A0 ?_;refine AR ?_;refine Abn ?_;refine Aay ?_;refine BL k1 rfl rfl takesZ rdZ rfl rfl ?_;rintro _ _ ⟨rfl,rfl⟩;refine AE ?_;refine Aay ?_;refine BL k2 rfl rfl takesZ rdZ rfl rfl ?_;rintro _ _ ⟨rfl,rfl⟩;refine Aat ?_
    refine A6 (.q 0 (.q 1 (.q 2 (.q 3 (.q 4 (.q 5 (.q 6 (.q 7 (.q 8 (.q 9 (.q 10 (.l 11 .b (.q 12 .nil))))))))))))) [] rfl (by kernel_rfl) Sel.nil ?_
    refine Ab3 ?_;refine Ag8 ?_
    focus ((refine' C1 rfl _ rfl rfl rfl rfl _; rotate_left; (focus (apply EE; exact rfl; exact rfl; exact rfl; exact rfl; exact rfl; exact rfl; exact rfl))))
    refine CF (EQ rfl hy1 rfl rfl (Takes.skip (Takes.skip Takes.all)) (fun τ hτ=>.inl (by simp [hτ])) rfl rfl (fun _ _ _ w hw=>hw.sel Sel.nil) ?_)
    rintro _ H' ⟨σ1,rfl,⟨rfl,hI1⟩|⟨rfl,hSt⟩⟩
    ·refine E9 (H':=_::_::Own σ1) (List.perm_append_comm (l₂:=[_,_])) ?_
     refine C8 ?_;refine Ab8 ?_;refine A2 ?_
     exact AT (k+1,p',q',σ1) ⟨by dsimp only; omega,by dsimp only; omega,by dsimp only; omega,g2,hI1⟩ (by dsimp only; omega) covZ Sel.refl
    ·refine C8 ?_
     refine Ab5 ?_
     exact AO (res0 rfl) (fun _ h=>h) Sel.left ⟨σ1,rfl,.inr hSt⟩
   ·rw [decide_eq_false h3]
    have hlive:p<(tog a).length∨q<(tog b).length:=by omega
    have hS':=mrg_at (by omega) (by omega) hlive
    have hgo:=stp_go hlive
    rw [hX] at hS' hgo;rw [← hS] at hS'
    obtain ⟨g1,g2,g3⟩:=drop_head hS'
    have p1:=stp_le (A:=tog a) (t:=m) (p:=p) (by omega)
    have q1:=stp_le (A:=tog b) (t:=m) (p:=q) (by omega)
    have hy1:=hy k σ' (encPt (m,oddB (stp (tog a) m p),oddB (stp (tog b) m q))) (by rw [List.getElem?_map,g1]; rfl) hI
    have k1:=hpa bx p m hp
    have k2:=hpb by_ q m hq
    generalize stp (tog a) m p=p' at g2 hy1 k1 p1 hgo
    generalize stp (tog b) m q=q' at g2 hy1 k2 q1 hgo
    refine Adi ?_;refine BN ?_;refine Aa4 ?_;refine Abn ?_;refine Aca ?_;refine Aah ?_;refine BN ?_;refine Abp ?_;refine Ac1 ?_;refine Abn ?_;refine Aay ?_;refine BL k1 rfl rfl takesZ rdZ rfl rfl ?_;rintro _ _ ⟨rfl,rfl⟩;refine AE ?_;refine Aay ?_;refine BL k2 rfl rfl takesZ rdZ rfl rfl ?_;rintro _ _ ⟨rfl,rfl⟩;refine Aat ?_
    refine A6 (.q 0 (.q 1 (.q 2 (.q 3 (.q 4 (.q 5 (.q 6 (.q 7 (.q 8 (.q 9 (.q 10 (.l 11 .b (.q 12 .nil))))))))))))) [] rfl (by kernel_rfl) Sel.nil ?_
    refine Ab3 ?_;refine Ag8 ?_
    focus ((refine' C1 rfl _ rfl rfl rfl rfl _; rotate_left; (focus (apply EE; exact rfl; exact rfl; exact rfl; exact rfl; exact rfl; exact rfl; exact rfl))))
    refine CF (EQ rfl hy1 rfl rfl (Takes.skip (Takes.skip Takes.all)) (fun τ hτ=>.inl (by simp [hτ])) rfl rfl (fun _ _ _ w hw=>hw.sel Sel.nil) ?_)
    rintro _ H' ⟨σ1,rfl,⟨rfl,hI1⟩|⟨rfl,hSt⟩⟩
    ·refine E9 (H':=_::_::Own σ1) (List.perm_append_comm (l₂:=[_,_])) ?_
     refine C8 ?_;refine Ab8 ?_;refine A2 ?_
     exact AT (k+1,p',q',σ1) ⟨by dsimp only; omega,by dsimp only; omega,by dsimp only; omega,g2,hI1⟩ (by dsimp only; omega) covZ Sel.refl
    ·refine C8 ?_
     refine Ab5 ?_
     exact AO (res0 rfl) (fun _ h=>h) Sel.left ⟨σ1,rfl,.inr hSt⟩
 ·rw [decide_eq_false h1]
  by_cases h2:q<2*b.length
  ·have hX:nxtT (tog a) (tog b) p q=n:=by unfold nxtT; rw [if_neg (by omega),hn]
   rw [decide_eq_true h2]
   have hlive:p<(tog a).length∨q<(tog b).length:=by omega
   have hS':=mrg_at (by omega) (by omega) hlive
   have hgo:=stp_go hlive
   rw [hX] at hS' hgo;rw [← hS] at hS'
   obtain ⟨g1,g2,g3⟩:=drop_head hS'
   have p1:=stp_le (A:=tog a) (t:=n) (p:=p) (by omega)
   have q1:=stp_le (A:=tog b) (t:=n) (p:=q) (by omega)
   have hy1:=hy k σ' (encPt (n,oddB (stp (tog a) n p),oddB (stp (tog b) n q))) (by rw [List.getElem?_map,g1]; rfl) hI
   have k1:=hpa bx p n hp
   have k2:=hpb by_ q n hq
   generalize stp (tog a) n p=p' at g2 hy1 k1 p1 hgo
   generalize stp (tog b) n q=q' at g2 hy1 k2 q1 hgo
   refine Adi ?_;refine BN ?_;refine Aao ?_;refine BN ?_;refine Aem ?_;refine Aca ?_;refine Aah ?_;refine BN ?_;refine Adh ?_;refine Aez ?_;refine Ade ?_;refine Ae4 ?_;refine BL k1 rfl rfl takesZ rdZ rfl rfl ?_;rintro _ _ ⟨rfl,rfl⟩;refine AE ?_;refine Aay ?_;refine BL k2 rfl rfl takesZ rdZ rfl rfl ?_;rintro _ _ ⟨rfl,rfl⟩;refine Aat ?_
   refine A6 (.q 0 (.q 1 (.q 2 (.q 3 (.q 4 (.q 5 (.q 6 (.q 7 (.q 8 (.q 9 (.q 10 (.l 11 .b (.q 12 .nil))))))))))))) [] rfl (by kernel_rfl) Sel.nil ?_
   refine Ab3 ?_;refine Ag8 ?_
   focus ((refine' C1 rfl _ rfl rfl rfl rfl _; rotate_left; (focus (apply EE; exact rfl; exact rfl; exact rfl; exact rfl; exact rfl; exact rfl; exact rfl))))
   refine CF (EQ rfl hy1 rfl rfl (Takes.skip (Takes.skip Takes.all)) (fun τ hτ=>.inl (by simp [hτ])) rfl rfl (fun _ _ _ w hw=>hw.sel Sel.nil) ?_)
   rintro _ H' ⟨σ1,rfl,⟨rfl,hI1⟩|⟨rfl,hSt⟩⟩
   ·refine E9 (H':=_::_::Own σ1) (List.perm_append_comm (l₂:=[_,_])) ?_
    refine C8 ?_;refine Ab8 ?_;refine A2 ?_
    exact AT (k+1,p',q',σ1) ⟨by dsimp only; omega,by dsimp only; omega,by dsimp only; omega,g2,hI1⟩ (by dsimp only; omega) covZ Sel.refl
   ·refine C8 ?_
    refine Ab5 ?_
    exact AO (res0 rfl) (fun _ h=>h) Sel.left ⟨σ1,rfl,.inr hSt⟩
  ·rw [decide_eq_false h2]
   have hpe:p=(tog a).length:=by omega
   have hqe:q=(tog b).length:=by omega
   rw [hpe,hqe,mrg_end] at hS
   have hke:k=(mrg (tog a) false (tog b) false).length:=by
    have:=List.drop_eq_nil_iff.1 hS
    omega
   refine Adi ?_;refine BN ?_;refine Aao ?_;refine BN ?_;refine Aez ?_
   refine AO (res0 rfl) (fun _ h=>h) (Sel.skip (Sel.skip Sel.refl)) ⟨σ',rfl,.inl ?_⟩
   rw [List.length_map,← hke];exact hI
theorem points_spec (v u:Value) (hv:v.oneCell'=true) (hu:u.oneCell'=true) :
  Eng.Spec Tryz.prog (fv 176) [v,u] [] [] (fun r H'=>∃ b1 b2,r=.func (.func 206) #[] #[.pointer (some ⟨b1,0,none⟩),.pointer (some ⟨b2,0,none⟩)]∧H'=[sng b2 (.cells #[u] 148 (0,0)),sng b1 (.cells #[v] 148 (0,0))]):=by
 refine spec_in (cap:=[]) Tryz.func176 rfl rfl Tryz.ntmps176 rfl envZ (fun N β=>?_)
 refine Aa ?_;refine BH (D5 rfl hv) rfl rfl rfl ?_;rintro _ _ ⟨b1,rfl,rfl⟩;refine BH (D5 rfl hu) rfl rfl rfl ?_;rintro _ _ ⟨b2,rfl,rfl⟩;refine Afa ?_;refine CL ?_;refine Aaa ?_;exact AO (res1 rfl rfl) rsubZ selZ ⟨b1,b2,rfl,rfl⟩
theorem ivCombine_spec (ρ τ:PH) (va vb:Value) (gf:FuncId) (a b:Iv) (f:Bool→Bool→Bool) (ha:SpAt ρ va a) (hb:SpAt τ vb b) (h0a:chkI a=0) (h0b:chkI b=0) (hlen:a.length+b.length≤1000) (hf:f false false=false)
  (hfn:∀ x y,Ans Tryz.prog (.func (.func gf) #[] #[]) [.bool x,.bool y] [] (fun r=>r=.bool (f x y))) :
  Makes Tryz.prog (fv 128) [va,vb,.func (.func gf) #[] #[]] [ρ,τ] (fun r σ=>∃ u,r=.tuple #[u,int 0]∧OwnS 152 2 u (combI f a b).length ((combI f a b).flatMap encS) σ):=by
 have hca:=ivCheck_spec ρ va a ha (by omega)
 have hcb:=ivCheck_spec τ vb b hb (by omega)
 rw [h0a] at hca;rw [h0b] at hcb
 have hpts:=fun b1 b2=>points_iter ρ τ va vb a b b1 b2 ha hb (by omega) (by omega)
 have hcl:=(combI_ok hf (chkI_norm h0a).2.1 (chkI_norm h0b).2.1).2.2
 have hml:=mrg_len _ (tog a) false (tog b) false (Nat.le_refl _)
 rw [tog_len,tog_len] at hml
 obtain ⟨qa,ca,rfl,_⟩:=ha.val encS_len
 obtain ⟨qb,cb,rfl,_⟩:=hb.val encS_len
 refine spec_in (cap:=[]) Tryz.func128 rfl rfl Tryz.ntmps128 rfl envZ (fun N β=>?_)
 refine BZ ?_;refine Aa ?_;refine E8 ?_; rintro _ _ ⟨b,rfl,rfl⟩;refine Aal ?_;refine Aah ?_
 revert b; intro b5
 refine AW (ρ:=sng b5 _) takeZ ?_
 have bx55_3:=rdB b5 218 [.func (.func gf) #[] #[]]
 have g5:=rdC bx55_3 0
 refine BC hca rfl rfl rdZ rfl rfl ?_;rintro _ rfl;refine BK ?_;refine Aao ?_;refine BC hcb rfl rfl rdZ rfl rfl ?_;rintro _ rfl;refine BK ?_;refine Abn ?_;refine Aa ?_;refine CK ?_; rintro _ _ ⟨b,rfl,rfl⟩;refine AE ?_;refine Aa ?_;refine CK ?_; rintro _ _ ⟨b,rfl,rfl⟩;refine BS ?_; rintro _ _ ⟨rfl,rfl⟩;refine AE ?_;refine Aav ?_
 revert b; intro b9
 revert b; intro b8
 refine BL (points_spec (.slice qa a.length ca) (.slice qb b.length cb) rfl rfl) rfl rfl Takes.nil (fun τ hτ=>by simp at hτ) rfl rfl ?_
 rintro _ _ ⟨b1,b2,rfl,rfl⟩;refine AW (ρ:=sng b1 _) takeZ ?_;refine AW (ρ:=sng b2 _) takeZ ?_;refine AE ?_;refine AM ?_
 refine D4 (gf:=206) (cap:=[.pointer (some ⟨b1,0,none⟩),.pointer (some ⟨b2,0,none⟩)]) (ps:=[24,25]) (X:=Value × Bool × PH) rfl Tryz.func206 rfl rfl
  (hpts b1 b2) ?_
  (fun i x=>x.2.1=oddB (mcomb f ((mrg (tog a) false (tog b) false).take i) []).length∧OwnS 152 2 x.1 (spans (mcomb f ((mrg (tog a) false (tog b) false).take i) [])).length ((spans (mcomb f ((mrg (tog a) false (tog b) false).take i) [])).flatMap encS) x.2.2)
  (fun x=>[sng b8 (.cells #[x.1] 148 (0,0)),sng b9 (.cells #[.bool x.2.1] 4 (0,0)),x.2.2]) (fun _ _=>False) (.slice none 0 0,false,emp) rfl takesZ ⟨rfl,OwnS.nil _ _⟩ ?_ ?_ ?_
 ·intro σ' hσ
  simp only [List.mem_cons,List.not_mem_nil,or_false] at hσ ⊢
  rcases hσ with h|h|h|h <;> simp [h]
 ·rintro lo r i ⟨u,ins,σ⟩ vs hvs ⟨hins,hO⟩ hps has hbd hst hpe hfr
  obtain ⟨st,pe,fnn,tm,prm,asg,bdy,df⟩:=r
  simp only at hps has hbd hst hpe hfr;subst hps has hbd hst hpe;rw [List.getElem?_map] at hvs
  obtain ⟨⟨t,x,y⟩,hc,rfl⟩:=Option.map_eq_some_iff.1 hvs
  have hnx:=mcomb_next f hc []
  have hOl:=mcomb_len f ((mrg (tog a) false (tog b) false).take i) []
  have hti:((mrg (tog a) false (tog b) false).take i).length≤(mrg (tog a) false (tog b) false).length:=by rw [List.length_take]; omega
  dsimp only at hins hO
  have hsl:=spans_len (mcomb f ((mrg (tog a) false (tog b) false).take i) [])
  simp only [hnx]
  generalize mcomb f ((mrg (tog a) false (tog b) false).take i) []=O at hins hO hOl hsl
  simp only [List.length_nil] at hOl
  have hone:∀ z n (xs:List Value) (χ:PH),OwnS 152 2 z n xs χ→z.oneCell'=true:=fun z n xs χ h=>by obtain ⟨_,_,rfl⟩:=h.form; rfl
  have hu1:=hone _ _ _ _ hO
  have hfxy:=hfn x y
  have hm1:mcomb1 f O (t,x,y)=if f x y=oddB O.length then O else O ++ [t]:=rfl
  refine yield_spec hfr rfl (by intro p hp; simp at hp; omega) putiZ (fun N' β'=>?_)
  dsimp only
  refine Aai ?_;refine AA ?_;refine A4 ?_; rintro _ _ ⟨b,rfl,rfl⟩;refine AY ?_; rintro _ _ ⟨rfl,rfl⟩;refine Ag9 ?_;refine DW takeZ rfl ?_
  revert b; intro bx
  refine AM ?_;refine Acz ?_
  focus ((refine CW (HP rfl rfl rfl rfl (by decide)) rfl rfl rfl ?_))
  refine AF ?_
  focus ((refine CW (HQ rfl rfl rfl rfl (by decide)) rfl rfl rfl ?_))
  refine AF ?_;refine BC hfxy rfl rfl rdZ rfl rfl ?_;rintro _ rfl
  cases hfv:f x y with
  | true =>
   cases ins with
   | true =>
    rw [hfv,← hins,if_pos rfl] at hm1;refine Aaa ?_;refine Aap ?_;refine Aay ?_;refine AF ?_;refine BN ?_;refine Acs ?_;refine AK rfl ?_;refine Aac ?_;refine BN ?_;refine AB ?_;refine AH rfl rfl rfl ?_;refine Adx ?_;refine Abd ?_;refine Aax ?_;refine BS ?_; rintro _ _ ⟨rfl,rfl⟩;refine Agz ?_
    exact CH takeZ rsubZ selZ ⟨(u,true,σ),.inl ⟨rfl,⟨by rw [hm1]; exact hins,by rw [hm1]; exact hO⟩,rfl⟩⟩
   | false =>
    rw [hfv,← hins,if_neg (by simp)] at hm1
    have hsp:=spans_even t hins.symm
    refine Aaa ?_;refine Aap ?_;refine Aay ?_;refine AF ?_;refine BN ?_;refine Acs ?_;refine AL rfl ?_;refine AA ?_;refine Abq ?_;refine BY ?_;refine AZ ?_; rintro _ _ ⟨b,rfl,rfl⟩
    refine BH (BI (by_:=16) (s:=2) (news:=[int t,int 0]) rfl rfl rfl rfl rfl rfl rfl hO takeZ (cells_own memZ) rfl oneZ (by omega) (by simp only [maxLen]; omega) (by omega)) rfl rfl rfl ?_
    rintro u1 _ ⟨σ1,hO1,rfl⟩
    have hu2:=hone _ _ _ _ hO1
    refine BS ?_; rintro _ _ ⟨rfl,rfl⟩;refine AE ?_;refine Aax ?_;refine BS ?_; rintro _ _ ⟨rfl,rfl⟩;refine Agz ?_;refine CH takeZ rsubZ selZ ⟨(u1,true,σ1),.inl ⟨rfl,⟨?_,?_⟩,rfl⟩⟩
    ·dsimp only
     rw [hm1,List.length_append,List.length_singleton,oddB_succ,← hins]; rfl
    ·dsimp only
     rw [hm1,hsp,List.length_append,List.flatMap_append];exact hO1
  | false =>
   cases ins with
   | false =>
    rw [hfv,← hins,if_pos rfl] at hm1;refine Aaa ?_;refine Aap ?_;refine Aay ?_;refine Aab ?_;refine Adx ?_;refine AK rfl ?_;refine Aac ?_;refine BN ?_;refine AB ?_;refine AF ?_;refine Acs ?_;refine Abd ?_;refine Aax ?_;refine BS ?_; rintro _ _ ⟨rfl,rfl⟩;refine Agz ?_
    exact CH takeZ rsubZ selZ ⟨(u,false,σ),.inl ⟨rfl,⟨by rw [hm1]; exact hins,by rw [hm1]; exact hO⟩,rfl⟩⟩
   | true =>
    rw [hfv,← hins,if_neg (by simp)] at hm1
    obtain ⟨l,c,e1,e2⟩:=spans_odd t hins.symm
    rw [e1] at hO hsl
    have hll:(l ++ [(c,(0:Int))]).length=l.length+1:=by simp
    obtain ⟨bu,cu,rfl⟩:=hO.formP (by omega)
    have hget:(l ++ [(c,(0:Int))])[(l ++ [(c,(0:Int))]).length-1]?=some (c,0):=by simp
    refine Aaa ?_;refine Aap ?_;refine Aay ?_;refine Aab ?_;refine Adx ?_;refine AK rfl ?_;refine Aac ?_;refine BN ?_;refine AB ?_;refine AF ?_;refine Acs ?_;refine AL rfl ?_;refine AA ?_;refine AF ?_;refine AF ?_;refine AU ?_;refine D8 ?_;refine AB ?_;refine Ab2 ?_
    refine CI (EM encS_len (s:=2) ((l ++ [(c,(0:Int))]).length-1) 1 (c,t) hO rfl (by simp; rfl) (by decide) hget rfl rfl rfl rfl takeZ) rfl rfl ?_
    rintro _ _ ⟨rfl,σ1,hO1,rfl⟩;refine AE ?_;refine Aax ?_;refine BS ?_; rintro _ _ ⟨rfl,rfl⟩;refine Agz ?_;refine CH takeZ rsubZ selZ ⟨(.slice (some ⟨bu,0,none⟩) (l ++ [(c,(0:Int))]).length cu,false,σ1),.inl ⟨rfl,⟨?_,?_⟩,rfl⟩⟩
    ·dsimp only
     rw [hm1,List.length_append,List.length_singleton,oddB_succ,← hins]; rfl
    ·dsimp only
     rw [hm1,e2]
     have es:(l ++ [(c,(0:Int))]).set ((l ++ [(c,(0:Int))]).length-1) (c,t)=l ++ [(c,t)]:=by simp
     rw [es] at hO1
     simpa using hO1
 ·rintro b2' ⟨u,ins,σ⟩ ⟨hins,hO⟩
  rw [List.length_map,List.take_length] at hins hO
  dsimp only at hins hO
  have hO2:OwnS 152 2 u (combI f a b).length ((combI f a b).flatMap encS) σ:=hO
  obtain ⟨p,c,rfl⟩:=hO2.form
  clear hO
  generalize combI f a b=out at hO2 hcl
  refine A2 ?_;refine AC ?_;refine Acz ?_;refine AU ?_;refine Af ?_;refine Acz ?_;refine Aal ?_;exact E3 (Marks.cons .here .nil) (res2 rfl rfl rfl) rsubZ selZ ⟨σ,⟨_,rfl,hO2⟩,rfl⟩
 ·rintro _ _ _ h; exact h.elim
def rowsQ (L:List Sq):List Value:=L.map (fun x=>.slice x.1.1 x.2.length x.1.2)
theorem rowsQ_flat:∀ L:List Sq,L.flatMap encQ=rowsQ L
 | []=>rfl
 | x::L=>by
  rw [List.flatMap_cons,rowsQ_flat L]
  rfl
theorem rowsQ_len (L:List Sq):(rowsQ L).length=L.length:=List.length_map _
theorem rowsQ_set (L:List Sq) (k:Nat) (z:Sq):(rowsQ L).toArray.setIfInBounds k (.slice z.1.1 z.2.length z.1.2)=(rowsQ (L.set k z)).toArray:=by
 apply Array.toList_inj.1
 rw [Array.toList_setIfInBounds];unfold rowsQ;rw [List.map_set]
theorem rowsQ_rep (n:Nat):List.replicate n (Value.slice none 0 0)=rowsQ (List.replicate n ((none,0),[])):=by
 unfold rowsQ;rw [List.map_replicate]
 rfl
theorem exOr_spec (x y:Bool):Ans Tryz.prog (fv 129) [.bool x,.bool y] [] (fun r=>r=.bool (x || y)):=by
 refine spec_in (cap:=[]) Tryz.func129 rfl rfl Tryz.ntmps129 rfl envZ (fun N β=>?_)
 cases x <;> cases y
 all_goals
  repeat' (first
   | (refine AB ?_)
   | (refine AD ?_)
   | (refine AR ?_)
   | (refine AN ?_)
   | (refine AC ?_)
   | (refine AA ?_)
   | (refine AE ?_)
   | (refine AH rfl rfl rfl ?_)
   | fail)
  exact A3 ⟨rfl,rfl⟩
theorem exUnion_spec (ρ τ:PH) (va vb:Value) (a b:Iv) (ha:SpAt ρ va a) (hb:SpAt τ vb b) (h0a:chkI a=0) (h0b:chkI b=0) (hlen:a.length+b.length≤1000) :
  Makes Tryz.prog (fv 70) [va,vb] [ρ,τ] (fun r σ=>∃ u,r=.tuple #[u,int 0]∧OwnS 152 2 u (combI (fun x y=>x || y) a b).length ((combI (fun x y=>x || y) a b).flatMap encS) σ):=by
 have h:=ivCombine_spec ρ τ va vb 129 a b (fun x y=>x || y) ha hb h0a h0b hlen rfl exOr_spec
 obtain ⟨qa,ca,rfl,_⟩:=ha.val encS_len
 obtain ⟨qb,cb,rfl,_⟩:=hb.val encS_len
 refine spec_in (cap:=[]) Tryz.func70 rfl rfl Tryz.ntmps70 rfl envZ (fun N β=>?_)
 refine Ad5 ?_;refine Aay ?_;refine BV h rfl rfl rdZ rfl rfl ?_;rintro _ σ ⟨u,rfl,hO⟩;refine Ahj ?_;exact AO (res2 rfl rfl rfl) rsubZ selZ ⟨σ,⟨u,rfl,hO⟩,rfl⟩
theorem Sides_spec {ρ τ σ υ:PH} {pq pc pb ph:Option Addr} {kq kc kb kh:Nat} {qs:List Int} {cs:List Ct} {bs:List Bk} {hs:List Hd} (hT:TbAt ρ τ σ υ pq pc pb ph kq kc kb kh qs cs bs hs) (d:Dm) (ω:PH) (u0:Value) (side:List Int) (hu:IntsAt ω u0 side) (hsl:side.length≤1000000) :
  Eng.Spec Tryz.prog (fv 30) [.agg #[.slice pq qs.length kq,.slice pc cs.length kc,.slice pb bs.length kb,.slice ph hs.length kh],.agg #[int d.s,int d.d,int d.v,int d.r,int d.e],u0] [ρ,τ,σ,υ,ω] [] (fun r H'=>∃ (L:List Sq) (u:Value) (σ' χ':PH),r=.tuple #[u,int (sidesE qs cs bs hs d side)]∧H'=[σ',χ']∧cuL L=(if sidesE qs cs bs hs d side=0 then sidesC d qs.length side else [])∧CutL σ' χ' u L):=by
 obtain ⟨pf,kf,rfl,hrf⟩:=hu.val Eng.encI_len
 have hnil:CutL emp emp (.slice none 0 0) []:=⟨⟨rfl,.inl ⟨rfl,none,0,rfl⟩⟩,by simp⟩
 refine spec_in (cap:=[]) Tryz.func30 rfl rfl Tryz.ntmps30 rfl envZ (fun N β=>?_)
 refine Aa ?_;refine BH (BO rfl) rfl rfl rfl ?_;rintro _ _ ⟨b1,rfl,rfl⟩;refine AW (ρ:=sng b1 _) takeZ ?_
 have ct:=rdB b1 29 [.slice pq qs.length kq,.slice pc cs.length kc,.slice pb bs.length kb,.slice ph hs.length kh]
 have ct0:=rdC ct 0
 have ct1:=rdC ct 1
 have ct2:=rdC ct 2
 have ct3:=rdC ct 3
 have ctp:=rdQ (xs:=[_,_]) ct
 refine BH (BO rfl) rfl rfl rfl ?_;rintro _ _ ⟨b2,rfl,rfl⟩;refine AW (ρ:=sng b2 _) takeZ ?_
 have cd:=rdB b2 31 [int d.s,int d.d,int d.v,int d.r,int d.e]
 have cd0:=rdC cd 0
 have cd1:=rdC cd 1
 have cd2:=rdC cd 2
 have cd3:=rdC cd 3
 have cd4:=rdC cd 4
 refine Afv ?_;refine Aal ?_;refine Acu ?_;refine BL (build_spec hT d) rfl rfl Takes.nil rdZ rfl rfl ?_;rintro _ H' (⟨hv,rfl,rfl⟩|⟨hv,bw,bm,pl0,χ,M,rfl,rfl,hO,hM⟩)
 ·have hE:sidesE qs cs bs hs d side=1:=by unfold sidesE; rw [if_neg (by simp [hv])]
  rw [hE];refine Adi ?_;refine Afo ?_;refine Aal ?_;exact AO (res2 rfl rfl rfl) rsubZ selZ ⟨[],_,emp,emp,rfl,rfl,rfl,hnil⟩
 have hEv:sidesE qs cs bs hs d side=(Go.Flow.capacitySpec (vsN qs d) (arcsG qs cs bs hs d) side).2:=by unfold sidesE; rw [if_pos hv]
 have h:=vok hv
 have h0:=vokB hv
 have hdm:=h.dm
 unfold okDm at hdm
 have hnq:=h.nq
 obtain ⟨pl,kp,rfl⟩:=hO.form
 have hpl:SlE encS 2 χ (.slice pl (placesA d qs.length).length kp) (placesA d qs.length):=hO.at
 refine AW (ρ:=sng bw _) takeZ ?_;refine AW (ρ:=sng bm _) takeZ ?_;refine AW (ρ:=χ) takeZ ?_
 have bx134_3:=rdB bw 147 [.slice pq qs.length kq,.slice pc cs.length kc,.slice pb bs.length kb,.slice ph hs.length kh,int d.s,int d.d,int d.v,int d.r,int d.e,.slice pl (placesA d qs.length).length kp,.map (some bm)]
 have w0:=rdC bx134_3 0
 have w1:=rdC bx134_3 1
 have w2:=rdC bx134_3 2
 have w3:=rdC bx134_3 3
 have w4:=rdC bx134_3 4
 have w5:=rdC bx134_3 5
 have w6:=rdC bx134_3 6
 have w7:=rdC bx134_3 7
 have w8:=rdC bx134_3 8
 have w9:=rdC bx134_3 9
 have w10:=rdC bx134_3 10
 have hg:=graph_spec hT bw bm kp pl χ M d h h0 hpl hM
 have hEl:=ea_len qs cs bs hs d h
 have hAl:(arcsG qs cs bs hs d).length=(arcsE qs cs bs hs d).length:=by unfold arcsG; rw [List.length_map]
 refine Adi ?_;refine Acw ?_;refine Aac ?_;refine BV hg rfl rfl rdZ rfl rfl ?_;rintro _ σg ⟨ug,rfl,hOg⟩
 have hAt:ArcsAt σg ug (arcsG qs cs bs hs d):=hOg.at
 obtain ⟨pg,kg,rfl⟩:=hOg.form
 refine AW (ρ:=σg) takeZ ?_;refine A4 ?_; rintro _ _ ⟨b,rfl,rfl⟩;refine AY ?_; rintro _ _ ⟨rfl,rfl⟩;refine Afg ?_;refine AB ?_
 revert b; intro bg
 refine AW (ρ:=sng bg _) takeZ ?_
 have bx183_3:=rdB bg 75 [int (vsN qs d),.slice pg (arcsG qs cs bs hs d).length kg,int (vtx d d.s d.r),int (vtx d d.d d.e)]
 have gg0:=rdC bx183_3 0
 have gg1:=rdC bx183_3 1
 have gg2:=rdC bx183_3 2
 have gg3:=rdC bx183_3 3
 have hcap:=flowCapacity_spec σg ω _ _ (vsN qs d) (arcsG qs cs bs hs d) side hAt hu (by omega) (by omega)
 skip
 refine BC hcap rfl rfl rdZ rfl rfl ?_;rintro _ rfl;rw [← hEv]
 generalize (Go.Flow.capacitySpec (vsN qs d) (arcsG qs cs bs hs d) side).1=vv
 by_cases hz:sidesE qs cs bs hs d side=0
 rotate_left
 ·rw [if_neg hz]
  refine Adn ?_;refine Ag6 ?_;exact AO (res2 rfl rfl rfl) rsubZ selZ ⟨[],_,emp,emp,rfl,rfl,rfl,hnil⟩
 have hin:=sidesE_in hv hz
 rw [hz,if_pos rfl]
 have hplen:(((placesA d qs.length).length:Nat):Int)=vsN qs d:=placesA_len (d:=d) (by omega) qs.length
 obtain ⟨_,_,ep,hrp⟩:=SlE.val (enc:=encS) encS_len hpl
 simp only [Value.slice.injEq] at ep
 obtain ⟨rfl,_,rfl⟩:=ep
 refine Adn ?_;refine Abh ?_;refine Aa ?_;refine Acx ?_;refine GT ?_; rintro _ _ ⟨b,rfl,rfl⟩;refine Af2 ?_
 revert b; intro B
 rw [rowsQ_rep]
 refine BA [3,8,13,44,45] (X:=Nat × List Sq × PH) (0,List.replicate qs.length ((none,0),[]),emp) (fun x=>x.1≤side.length∧cuL x.2.1=sidesC d qs.length (side.take x.1)∧∀ z∈x.2.1,SpAt x.2.2 (.slice z.1.1 z.2.length z.1.2) z.2∧z.2.length≤1000) (fun x=>[(46,int x.1)]) (fun x=>[sng B (.cells (rowsQ x.2.1).toArray 148 (0,0)),x.2.2]) (fun x=>side.length-x.1) pickZ ⟨by dsimp only; omega,?_,fun z hz=>?_⟩ covZ selZ ?_
 ·dsimp only
  rw [List.take_zero,sidesC_nil];exact List.map_replicate
 ·obtain ⟨_,rfl⟩:=List.mem_replicate.1 hz
  exact ⟨⟨rfl,.inl ⟨rfl,_,_,rfl⟩⟩,by simp⟩
 rintro ⟨k,L,κ⟩ ⟨hk,hL,hS⟩
 dsimp only at hk hL hS ⊢
 have hLl:L.length=qs.length:=by
  have:=congrArg List.length hL
  rwa [List.length_map,sidesC_len] at this
 by_cases hlt:k<side.length
 rotate_left
 ·have hke:k=side.length:=by omega
  subst hke;rw [List.take_length] at hL;refine Acd ?_;refine Afh ?_
  refine AO (res2 rfl rfl rfl) rsubZ selZ ⟨L,.slice (some ⟨B,0,none⟩) qs.length qs.length,_,κ,rfl,rfl,hL,?_,fun z hz=>⟨(hS z hz).1,by have:=(hS z hz).2; omega⟩⟩
  have:=slE_sng (enc:=encQ) encQ_len (b:=B) (l:=L) (t:=148) (fr:=(0,0)) (c:=qs.length)
  unfold elems at this;rw [rowsQ_flat,hLl] at this;exact this
 have hx:=List.getElem?_eq_getElem hlt
 have hvi:=hin _ (List.getElem_mem hlt)
 obtain ⟨n,t,hn,ht1,ht2,hkv,hkn⟩:=place_of (d:=d) (by omega) (k:=side[k].toNat) (N:=qs.length) (by rw [Int.toNat_of_nonneg hvi.1]; exact hvi.2)
 rw [Int.toNat_of_nonneg hvi.1] at hkv
 have hp:=placesA_get (d:=d) (by omega) ht1 ht2 hn
 rw [← hkv] at hp
 have hdv:=vtx_div (d:=d) (n:=n) (t:=t) ht1 ht2
 have hdm2:=vtx_mod (d:=d) (n:=n) (t:=t) ht1 ht2
 rw [← hkv] at hdv hdm2
 have hnx:=sidesC_next d qs.length hlt hdv
 rw [hdm2,show d.r+(t-d.r)=t by omega,← sideI_one (sideI_ok d (side.take k) n).1] at hnx
 obtain ⟨b6,o6,epl,hRd6,y0,y1⟩:=spRow hrp hp
 obtain ⟨bo,oo,epf,gf⟩:=hrf.int hx
 have hLn:=List.getElem?_eq_getElem (show n<L.length by omega)
 have hSn:=hS _ (List.getElem_mem (show n<L.length by omega))
 have hLe:L[n].2=sideI d (side.take k) n:=by
  have e1:(cuL L)[n]?=some L[n].2:=by rw [List.getElem?_map,hLn]; rfl
  rw [hL] at e1;unfold sidesC at e1;rw [List.getElem?_map,List.getElem?_range hn] at e1;exact (Option.some.inj e1).symm
 have hnorm:=(sideI_ok d (side.take k) n).1
 have hslen:=sideI_small h (side.take k) n
 have hchk:=sideI_chk h (side.take k) n
 rw [← hLe] at hnorm hslen hchk hnx
 have gB:rdc (sng B (.cells (rowsQ L).toArray 148 (0,0))) B n=some (.slice L[n].1.1 L[n].2.length L[n].1.2):=by
  rw [rdc_sng]
  simp [rowsQ,hLn]
 generalize hzz:L[n]=z at hLn hSn hLe hnorm hslen hchk hnx gB
 obtain ⟨⟨pz,kz⟩,lz⟩:=z
 dsimp only at hSn hLe hnorm hslen hchk hnx gB
 have hc1:chkI [(t,t+1)]=0:=chkI_of (by simp) (NormI.nil.cons (by dsimp only; omega) (by simp)) (fun x hx=>by
  obtain rfl:=List.mem_singleton.1 hx
  unfold okSp
  dsimp only
  omega)
 have hun:=fun b8=>exUnion_spec κ (sng b8 (.cells #[int t,int (t+1)] 152 (0,0))) (.slice pz lz.length kz) (.slice (some ⟨b8,0,none⟩) 1 1) lz [(t,t+1)] hSn.1 (slE_sng encS_len) hchk hc1 (by simp only [List.length_singleton]; omega)
 have hcl:=(combI_ok (f:=fun x y=>x || y) rfl hnorm (b:=[(t,t+1)]) (NormI.nil.cons (by dsimp only; omega) (by simp))).2.2
 simp only [List.length_singleton] at hcl
 obtain ⟨v,hvv⟩:=Int.eq_ofNat_of_zero_le hvi.1
 rw [hvv] at gf y0 y1 hRd6;rw [Int.toNat_natCast] at y0 y1 hRd6
 have hvl:(v:Int)<(((placesA d qs.length).length:Nat):Int):=by omega
 subst epl;subst epf;refine Aed ?_;refine Abr ?_;refine Af0 ?_;refine AB ?_;refine Abm ?_;refine A4 ?_; rintro _ _ ⟨b,rfl,rfl⟩;refine AY ?_; rintro _ _ ⟨rfl,rfl⟩;refine AE ?_
 revert b; intro b16
 refine A6 (.q 0 (.q 1 (.q 2 (.q 3 (.q 4 (.q 5 (.q 6 (.q 7 (.q 8 (.q 9 (.q 10 (.q 11 (.q 12 (.q 13 (.l 14 .e (.l 15 .e (.q 16 (.q 17 (.p 18 (.q 19 (.l 20 .b .nil))))))))))))))))))))) [] rfl (by kernel_rfl) Sel.nil ?_
 refine AI ?_;refine Acl ?_;refine Aau ?_;refine Ady ?_;refine Adl ?_;refine CY ?_;refine CV ?_;refine BF ?_; rintro _ _ ⟨b,rfl,rfl⟩
 revert b; intro b8
 refine CF (BU rfl (hun b8) rfl rfl rdZ rfl rfl ?_);rintro _ _ ⟨σi,⟨ui,rfl,hOi⟩,rfl⟩
 obtain ⟨pi,ci,rfl⟩:=hOi.form
 refine AI ?_;refine DQ ?_;refine EU ?_;refine CM ?_;refine CF ?_;refine' FW rfl _ rfl rfl _ _; rotate_left
 ·(apply EB; exact rfl; exact rfl; exact rfl; exact rfl; exact takeZ; (simp [rowsQ_len]; omega))
 ·rintro _ _ ⟨_,rfl⟩ w hw; exact hw.sel Sel.nil
 rintro _ _ ⟨rfl,rfl⟩;refine A7 ?_;refine Abf ?_
 show JK _ _ _ (sng B (.cells ((rowsQ L).toArray.setIfInBounds n (Value.slice pi (combI (fun x y=>x || y) lz [(t,t+1)]).length ci)) 148 (0,0))::_) _ _
 have hset:=rowsQ_set L n ((pi,ci),combI (fun x y=>x || y) lz [(t,t+1)])
 dsimp only at hset
 rw [hset]
 refine DC (ρ:=σi) (σ:=κ) takeZ takeZ (fun χ1 s1 s2=>?_)
 refine AT (k+1,L.set n ((pi,ci),combI (fun x y=>x || y) lz [(t,t+1)]),χ1) ⟨by dsimp only; omega,?_,fun z hz=>?_⟩ (by dsimp only; omega) covZ selZ
 ·dsimp only
  rw [hnx,← hL];exact List.map_set
 ·rcases List.mem_or_eq_of_mem_set hz with hz|rfl
  ·exact ⟨(hS z hz).1.mono s2,(hS z hz).2⟩
  ·exact ⟨SlE.mono (show SpAt σi _ _ from hOi.at) s1,by dsimp only; omega⟩
theorem exSame_spec (ρ τ:PH) (v w:Value) (l:Iv) (hv:SpAt ρ v l) (hw:SpAt τ w l) (hl:l.length≤9223372036854775807) :
  Ans Tryz.prog (fv 120) [v,w] [ρ,τ] (fun r=>r=.bool true):=by
 obtain ⟨q,c,rfl,hr⟩:=hv.val encS_len
 obtain ⟨q',c',rfl,hr'⟩:=hw.val encS_len
 refine spec_in (cap:=[]) Tryz.func120 rfl rfl Tryz.ntmps120 rfl envZ (fun N β=>?_)
 refine Ahh ?_;refine Acv ?_
 refine BA [0,1] (0:Nat) (fun k=>k≤l.length) (fun k=>[(5,int k)]) (fun _=>[]) (fun k=>l.length-k) pickZ (by omega) covZ selZ ?_
 rintro k hk
 by_cases hlt:k<l.length
 ·have hx:=List.getElem?_eq_getElem hlt
  obtain ⟨b1,o1,rfl,hRd1,_⟩:=spRow hr hx
  obtain ⟨b2,o2,rfl,hRd2,_⟩:=spRow hr' hx
  generalize l[k]=x at hRd1 hRd2 hx
  refine Ad9 ?_
  refine A6 P7Z [] rfl (by kernel_rfl) Sel.nil ?_
  refine Ae ?_;refine Ae ?_
  focus ((refine' C1 rfl _ rfl rfl rfl rfl _; rotate_left; (apply FQ [x.1,x.2] [x.1,x.2] (n:=2); exact rfl; exact rfl; kernel_rfl; kernel_rfl; kernel_rfl; exact rfl; exact rfl)))
  refine A7 ?_
  rw [show (!decide ([x.1,x.2]=[x.1,x.2]))=false by simp]
  skip
  refine Abd ?_;refine Aa2 ?_
  exact AT (k+1) (by omega) (by omega) covZ selZ
 ·refine AC ?_
  refine Aea ?_;refine Abv ?_;refine Aai ?_;exact A3 ⟨rfl,rfl⟩
theorem exSameCut_spec (γ κ γ' κ':PH) (p p':Option Addr) (kk kk':Nat) (La Lb:List Sq) (hc:CutL γ κ (.slice p La.length kk) La) (hc':CutL γ' κ' (.slice p' Lb.length kk') Lb) (he:cuL La=cuL Lb) (lla:La.length≤1000000) :
  Ans Tryz.prog (fv 56) [.slice p La.length kk,.slice p' Lb.length kk'] [γ,κ,γ',κ'] (fun r=>r=.bool true):=by
 have hlen:La.length=Lb.length:=by have:=congrArg List.length he; simpa using this
 obtain ⟨_,_,e1,hra⟩:=hc.1.val encQ_len
 obtain ⟨_,_,e2,hrb⟩:=hc'.1.val encQ_len
 simp only [Value.slice.injEq] at e1 e2
 obtain ⟨rfl,_,rfl⟩:=e1
 obtain ⟨rfl,_,rfl⟩:=e2
 refine spec_in (cap:=[]) Tryz.func56 rfl rfl Tryz.ntmps56 rfl envZ (fun N β=>?_)
 refine Ahh ?_;refine Acv ?_
 refine BA [0,1] (0:Nat) (fun k=>k≤La.length) (fun k=>[(5,int k)]) (fun _=>[]) (fun k=>La.length-k) pickZ (by omega) covZ selZ ?_
 rintro k hk
 by_cases hlt:k<La.length
 rotate_left
 ·refine AC ?_
  refine Aea ?_;refine Abv ?_;refine Aai ?_;exact A3 ⟨rfl,rfl⟩
 have hltb:k<Lb.length:=by omega
 have hx:=List.getElem?_eq_getElem hlt
 have hy:=List.getElem?_eq_getElem hltb
 have hexy:La[k].2=Lb[k].2:=by
  have:=congrArg (fun c:Cu=>c[k]?) he
  simp only [List.getElem?_map,hx,hy,Option.map_some,Option.some.injEq] at this;exact this
 have hma:=List.getElem_mem hlt
 have hmb:=List.getElem_mem hltb
 obtain ⟨b1,o1,rfl,hr1⟩:=hra k _ hx
 obtain ⟨b2,o2,rfl,hr2⟩:=hrb k _ hy
 have g1:rdc γ b1 (o1+k)=some (.slice La[k].1.1 La[k].2.length La[k].1.2):=by have:=hr1.get0; rwa [Nat.mul_one] at this
 have g2:rdc γ' b2 (o2+k)=some (.slice Lb[k].1.1 Lb[k].2.length Lb[k].1.2):=by have:=hr2.get0; rwa [Nat.mul_one] at this
 have hs:=exSame_spec κ κ' _ _ La[k].2 (hc.2 _ hma).1 (hexy ▸ (hc'.2 _ hmb).1) (hc.2 _ hma).2
 clear hr1 hr2;rw [hexy] at hs g1
 generalize La[k]=x at hx g1 hs
 generalize Lb[k]=y at hy g2 hs g1
 refine Ad9 ?_
 refine A6 (.q 0 (.q 1 (.q 2 (.q 3 (.q 4 (.q 5 (.q 6 (.q 7 (.l 8 .e (.q 9 .nil)))))))))) [] rfl (by kernel_rfl) Sel.nil ?_
 refine Adj ?_;refine Adj ?_;refine CF (CC rfl hs rfl rfl rdZ rfl rfl ?_);rintro _ rfl;refine C8 ?_;refine Aee ?_
 exact AT (k+1) (by omega) (by omega) covZ selZ
theorem greatPlan_spec (pq pc:Option Addr) (kq kc nq nc:Nat):Ans Tryz.prog (fv 159) [.agg #[.slice pq nq kq,.slice pc nc kc]] [] (fun r=>r=.bool (decide (6<nq∨10<nc))):=by
 refine spec_in (cap:=[]) Tryz.func159 rfl rfl Tryz.ntmps159 rfl envZ (fun N β=>?_)
 refine Aa ?_;refine BH (BO rfl) rfl rfl rfl ?_;rintro _ _ ⟨b1,rfl,rfl⟩;refine AW (ρ:=sng b1 _) takeZ ?_
 have c:=rdB b1 25 [.slice pq nq kq,.slice pc nc kc]
 have c0:=rdC c 0
 have c1:=rdC c 1
 by_cases h1:6<nq
 ·rw [decide_eq_true (.inl h1)]
  refine Ads ?_;refine CT ?_;refine Abs ?_;refine Acs ?_;exact A3 ⟨rfl,rfl⟩
 by_cases h2:10<nc
 ·rw [decide_eq_true (.inr h2)]
  refine Ads ?_;refine B7 ?_;refine Aaj ?_;refine AU ?_;refine CT ?_;refine Adx ?_;exact A3 ⟨rfl,rfl⟩
 rw [decide_eq_false (by omega)]
 refine Ads ?_;refine B7 ?_;refine Aaj ?_;refine AU ?_;refine B7 ?_;refine Adx ?_;exact A3 ⟨rfl,rfl⟩
theorem great29_spec (pq pc pb ph:Option Addr) (kq kc kb kh nq nc nb nh:Nat):Ans Tryz.prog (fv 104) [.agg #[.slice pq nq kq,.slice pc nc kc,.slice pb nb kb,.slice ph nh kh]] [] (fun r=>r=.bool (decide (6<nq∨10<nc∨30<nb∨30<nh))):=by
 refine spec_in (cap:=[]) Tryz.func104 rfl rfl Tryz.ntmps104 rfl envZ (fun N β=>?_)
 refine Aa ?_;refine BH (BO rfl) rfl rfl rfl ?_;rintro _ _ ⟨b1,rfl,rfl⟩;refine AW (ρ:=sng b1 _) takeZ ?_
 have c:=rdB b1 29 [.slice pq nq kq,.slice pc nc kc,.slice pb nb kb,.slice ph nh kh]
 have c0:=rdC c 0
 have c1:=rdC c 1
 have c2:=rdC c 2
 have c3:=rdC c 3
 have ctp:=rdQ (xs:=[_,_]) c
 refine Afa ?_;refine Agh ?_;refine BC (greatPlan_spec pq pc kq kc nq nc) rfl rfl rdZ rfl rfl ?_;rintro _ rfl
 by_cases h1:6<nq∨10<nc
 ·rw [decide_eq_true h1,decide_eq_true (by omega)]
  refine Ad8 ?_;refine Abs ?_;refine Acs ?_;exact A3 ⟨rfl,rfl⟩
 rw [decide_eq_false h1]
 by_cases h2:30<nb
 ·rw [decide_eq_true (by omega)]
  refine Aaj ?_;refine AU ?_;refine CT ?_;refine AN ?_;refine Abs ?_;refine Acs ?_;exact A3 ⟨rfl,rfl⟩
 by_cases h3:30<nh
 ·rw [decide_eq_true (by omega)]
  refine Aaj ?_;refine AU ?_;refine B7 ?_;refine Aa0 ?_;refine AU ?_;refine CT ?_;refine Adx ?_;exact A3 ⟨rfl,rfl⟩
 rw [decide_eq_false (by omega)]
 refine Aaj ?_;refine AU ?_;refine B7 ?_;refine Aa0 ?_;refine AU ?_;refine B7 ?_;refine Adx ?_;exact A3 ⟨rfl,rfl⟩
theorem great53_spec (pq pc pb ph:Option Addr) (kq kc kb kh nq nc nb nh:Nat) (d:Dm):Ans Tryz.prog (fv 47) [.agg #[.slice pq nq kq,.slice pc nc kc,.slice pb nb kb,.slice ph nh kh],.agg #[int d.s,int d.d,int d.v,int d.r,int d.e]] [] (fun r=>∃ b,r=.bool b):=by
 refine spec_in (cap:=[]) Tryz.func47 rfl rfl Tryz.ntmps47 rfl envZ (fun N β=>?_)
 refine Aa ?_;refine BH (BO rfl) rfl rfl rfl ?_;rintro _ _ ⟨b1,rfl,rfl⟩;refine AW (ρ:=sng b1 _) takeZ ?_
 have c:=rdB b1 29 [.slice pq nq kq,.slice pc nc kc,.slice pb nb kb,.slice ph nh kh]
 have c0:=rdC c 0
 have c1:=rdC c 1
 have c2:=rdC c 2
 have c3:=rdC c 3
 refine BH (BO rfl) rfl rfl rfl ?_;rintro _ _ ⟨b2,rfl,rfl⟩;refine AW (ρ:=sng b2 _) takeZ ?_
 have cd:=rdB b2 31 [int d.s,int d.d,int d.v,int d.r,int d.e]
 have cd0:=rdC cd 0
 have cd1:=rdC cd 1
 have cd2:=rdC cd 2
 have cd3:=rdC cd 3
 have cd4:=rdC cd 4
 refine Aaa ?_;refine Abt ?_;refine BC (great29_spec pq pc pb ph kq kc kb kh nq nc nb nh) rfl rfl rdZ rfl rfl ?_;rintro _ rfl
 obtain ⟨w1,hw1⟩:∃ w1,w1=IntKind.i64.wrap (d.r+24):=⟨_,rfl⟩
 obtain ⟨w2,hw2⟩:∃ w2,w2=IntKind.i64.wrap (d.r+100):=⟨_,rfl⟩
 cases decide (6<nq∨10<nc∨30<nb∨30<nh) with
 | true =>
  refine Adh ?_;refine Aab ?_;refine Aab ?_;refine Aab ?_;refine Aab ?_;refine Acs ?_;exact AO (res1 rfl rfl) rsubZ selZ ⟨rfl,_,rfl⟩
 | false =>
 by_cases h2:w1<d.e
 ·by_cases h3:d.e≤w2
  ·refine AB ?_
   refine Afc ?_
   focus ((refine CW (FM rfl rfl) rfl rfl rfl ?_; first|rw [← hw1]|rw [← hw2]))
   refine CT ?_;refine Abj ?_
   focus ((refine CW (FM rfl rfl) rfl rfl rfl ?_; first|rw [← hw1]|rw [← hw2]))
   refine C9 ?_;refine AR ?_;refine Adx ?_;exact AO (res1 rfl rfl) rsubZ selZ ⟨rfl,_,rfl⟩
  ·refine AB ?_
   refine Afc ?_
   focus ((refine CW (FM rfl rfl) rfl rfl rfl ?_; first|rw [← hw1]|rw [← hw2]))
   refine CT ?_;refine Abj ?_
   focus ((refine CW (FM rfl rfl) rfl rfl rfl ?_; first|rw [← hw1]|rw [← hw2]))
   refine DB ?_;refine AR ?_;refine Adx ?_;exact AO (res1 rfl rfl) rsubZ selZ ⟨rfl,_,rfl⟩
 ·refine AB ?_
  refine Afc ?_
  focus ((refine CW (FM rfl rfl) rfl rfl rfl ?_; first|rw [← hw1]|rw [← hw2]))
  refine B7 ?_;refine Adh ?_;refine AN ?_;refine Adx ?_;exact AO (res1 rfl rfl) rsubZ selZ ⟨rfl,_,rfl⟩
def okDmB (nq:Nat) (d:Dm):Bool:=decide (okDm nq d)
theorem demand53_spec (pq pc:Option Addr) (kq kc nq nc:Nat) (d:Dm):Ans Tryz.prog (fv 59) [.agg #[.slice pq nq kq,.slice pc nc kc],.agg #[int d.s,int d.d,int d.v,int d.r,int d.e]] [] (fun r=>r=.bool (okDmB nq d)):=by
 refine spec_in (cap:=[]) Tryz.func59 rfl rfl Tryz.ntmps59 rfl envZ (fun N β=>?_)
 refine Aa ?_;refine BH (BO rfl) rfl rfl rfl ?_;rintro _ _ ⟨b1,rfl,rfl⟩;refine AW (ρ:=sng b1 _) takeZ ?_
 have c:=rdB b1 25 [.slice pq nq kq,.slice pc nc kc]
 have c0:=rdC c 0
 have c1:=rdC c 1
 refine BH (BO rfl) rfl rfl rfl ?_;rintro _ _ ⟨b2,rfl,rfl⟩;refine AW (ρ:=sng b2 _) takeZ ?_
 have cd:=rdB b2 31 [int d.s,int d.d,int d.v,int d.r,int d.e]
 have cd0:=rdC cd 0
 have cd1:=rdC cd 1
 have cd2:=rdC cd 2
 have cd3:=rdC cd 3
 have cd4:=rdC cd 4
 by_cases c1:d.s<0
 ·rw [show okDmB nq d=false from decide_eq_false (fun h=>by unfold okDm at h; omega)]
  refine Afi ?_;refine BD ?_;refine Ad8 ?_;refine Acq ?_;refine Ad8 ?_;refine Ad2 ?_;refine Ags ?_;exact A3 ⟨rfl,rfl⟩
 by_cases c182:(nq:Int)≤d.s
 ·rw [show okDmB nq d=false from decide_eq_false (fun h=>by unfold okDm at h; omega)]
  refine Afi ?_;refine Adk ?_;refine AB ?_;refine CX ?_;refine AN ?_;refine Acq ?_;refine Ad8 ?_;refine Ad2 ?_;refine Ags ?_;exact A3 ⟨rfl,rfl⟩
 by_cases c374:d.d<0
 ·rw [show okDmB nq d=false from decide_eq_false (fun h=>by unfold okDm at h; omega)]
  refine Age ?_;refine BD ?_;refine AN ?_;refine Ad8 ?_;refine Ad2 ?_;refine Ags ?_;exact A3 ⟨rfl,rfl⟩
 by_cases c557:(nq:Int)≤d.d
 ·rw [show okDmB nq d=false from decide_eq_false (fun h=>by unfold okDm at h; omega)]
  refine Age ?_;refine Acc ?_;refine AB ?_;refine CX ?_;refine AN ?_;refine Ad2 ?_;refine Ags ?_;exact A3 ⟨rfl,rfl⟩
 by_cases c749:d.s=d.d
 ·rw [show okDmB nq d=false from decide_eq_false (fun h=>by unfold okDm at h; omega)]
  refine Age ?_;refine Ad3 ?_;refine CQ ?_;refine AN ?_;refine Ags ?_;exact A3 ⟨rfl,rfl⟩
 by_cases c934:d.v<1
 ·rw [show okDmB nq d=false from decide_eq_false (fun h=>by unfold okDm at h; omega)]
  refine Age ?_;refine Ahf ?_;refine BD ?_;refine AN ?_;refine Ae6 ?_;exact A3 ⟨rfl,rfl⟩
 by_cases c1117:1099511627776<d.v
 ·rw [show okDmB nq d=false from decide_eq_false (fun h=>by unfold okDm at h; omega)]
  refine Age ?_;refine Ahf ?_;refine Acc ?_;refine Ag0 ?_;exact A3 ⟨rfl,rfl⟩
 by_cases c1313:d.r<0
 ·rw [show okDmB nq d=false from decide_eq_false (fun h=>by unfold okDm at h; omega)]
  refine Age ?_;refine Ahf ?_;refine Acc ?_;refine Aei ?_;refine Aas ?_;refine BP ?_;refine Afe ?_;refine Aeh ?_;refine Ahi ?_;exact A3 ⟨rfl,rfl⟩
 by_cases c1497:d.e≤d.r
 ·rw [show okDmB nq d=false from decide_eq_false (fun h=>by unfold okDm at h; omega)]
  refine Age ?_;refine Ahf ?_;refine Acc ?_;refine Aei ?_;refine Afr ?_;refine Abj ?_;refine A0 ?_;refine AR ?_;refine Aeh ?_;refine Ahi ?_;exact A3 ⟨rfl,rfl⟩
 by_cases c1683:1099511627776<d.e
 ·rw [show okDmB nq d=false from decide_eq_false (fun h=>by unfold okDm at h; omega)]
  refine Age ?_;refine Ahf ?_;refine Acc ?_;refine Aei ?_;refine Afr ?_;refine Abj ?_;refine BD ?_;refine Adw ?_;refine DB ?_;refine AR ?_;refine Ahi ?_;exact A3 ⟨rfl,rfl⟩
 by_cases c1879:100<d.e-d.r
 ·rw [show okDmB nq d=false from decide_eq_false (fun h=>by unfold okDm at h; omega)]
  refine Age ?_;refine Ahf ?_;refine Acc ?_;refine Aei ?_;refine Afr ?_;refine Abj ?_;refine BD ?_;refine Adw ?_;refine C9 ?_;refine Ad4 ?_;refine CP ?_;refine DB ?_;refine Acs ?_;exact A3 ⟨rfl,rfl⟩
 rw [show okDmB nq d=true from decide_eq_true (by unfold okDm; omega)]
 refine Age ?_;refine Ahf ?_;refine Acc ?_;refine Aei ?_;refine Afr ?_;refine Abj ?_;refine BD ?_;refine Adw ?_;refine C9 ?_;refine Ad4 ?_;refine CP ?_;refine C9 ?_;refine Acs ?_;exact A3 ⟨rfl,rfl⟩
end Go.Proofs.YtjehnjhkcmobcaaGreat
namespace Go.Step
open Go.Flow (Flw fval okArc capOf MaxOK inCap)
def eQ:List Int:=[0,1,0]
def eC:List Ct:=[⟨0,1,0,2,3,1,0⟩,⟨1,2,3,5,3,1,0⟩]
def eD:Dm:=⟨0,2,4,0,6⟩
def eF:List Int:=[3,0,0,0,0,0,0,0,1,1,0,0,0,0,0,0,0,3,1,3,3,1]
abbrev eK:Int:=1099511627776
def eA:List EA:=[⟨⟨0,1,eK⟩,-1,0⟩,⟨⟨1,2,eK⟩,-1,1⟩,⟨⟨2,3,eK⟩,-1,2⟩,⟨⟨3,4,eK⟩,-1,3⟩,⟨⟨4,5,eK⟩,-1,4⟩,⟨⟨5,6,eK⟩,-1,5⟩,
  ⟨⟨7,8,1⟩,-1,0⟩,⟨⟨8,9,1⟩,-1,1⟩,⟨⟨9,10,1⟩,-1,2⟩,⟨⟨10,11,1⟩,-1,3⟩,⟨⟨11,12,1⟩,-1,4⟩,⟨⟨12,13,1⟩,-1,5⟩,
  ⟨⟨14,15,eK⟩,-1,0⟩,⟨⟨15,16,eK⟩,-1,1⟩,⟨⟨16,17,eK⟩,-1,2⟩,⟨⟨17,18,eK⟩,-1,3⟩,⟨⟨18,19,eK⟩,-1,4⟩,⟨⟨19,20,eK⟩,-1,5⟩,
  ⟨⟨0,9,3⟩,0,0⟩,⟨⟨1,10,3⟩,0,1⟩,⟨⟨10,19,3⟩,1,3⟩,⟨⟨11,20,3⟩,1,4⟩]
theorem eValid:validT eQ eC [] [] eD=true:=by decide +kernel
theorem eArcs:arcsE eQ eC [] [] eD=eA:=by decide +kernel
theorem eVs:vsN eQ eD=21:=by decide +kernel
theorem eS:vtx eD eD.s eD.r=0:=by decide +kernel
theorem eT:vtx eD eD.d eD.e=20:=by decide +kernel
theorem eG:arcsG eQ eC [] [] eD=eA.map (fun x=>x.a):=by unfold arcsG; rw [eArcs]
theorem eFlow:Flw 21 (arcsG eQ eC [] [] eD) 0 20 eF:=by
  rw [eG]
  exact ⟨by decide +kernel,by decide +kernel,by decide +kernel⟩
def eP (n t:Int):Bool:=decide (n=0∨(n=1∧t=2))
theorem eCap:capB eQ eC [] [] eD eP=4:=by
  decide +kernel
theorem eMax (hok:VOk eQ eC [] [] eD) {F:List Int} {m e:Int} (hm:MaxN eQ eC [] [] eD F m e):e=0∧m=4∧Flw 21 (arcsG eQ eC [] [] eD) 0 20 F∧fval 0 (arcsG eQ eC [] [] eD) F=4:=by
  obtain ⟨h0,N,S,T,hN,hS,hT,hf,hv,P,p1,p2,hc⟩:=max_cut hok hm
  rw [eVs] at hN;rw [eS] at hS;rw [eT] at hT
  obtain rfl:N=21:=by omega
  obtain rfl:S=0:=by omega
  obtain rfl:T=20:=by omega
  have a:fval 0 (arcsG eQ eC [] [] eD) F≤capB eQ eC [] [] eD eP:=flow_le_cap hok eVs eS eT hf (P:=eP) (by decide) (by decide)
  have b:fval 0 (arcsG eQ eC [] [] eD) eF≤capB eQ eC [] [] eD P:=flow_le_cap hok eVs eS eT eFlow p1 p2
  have c:fval 0 (arcsG eQ eC [] [] eD) eF=4:=by rw [eG]; decide +kernel
  have hv':m=fval 0 (arcsG eQ eC [] [] eD) F:=hv
  rw [eCap] at a
  exact ⟨h0,by omega,hf,by omega⟩
end Go.Step
namespace Go.Proofs.YtjehnjhkcmobcaaGreat
open Go.Eng Go.Step
set_option maxRecDepth 100000
set_option maxHeartbeats 64000000
theorem one_S (x:Int × Int):∀ u∈encS x,u.oneCell'=true:=by
 intro u hu
 simp only [encS,List.mem_cons,List.not_mem_nil,or_false] at hu
 rcases hu with rfl|rfl <;> rfl
theorem ones_S (l:Iv):∀ u∈l.flatMap encS,u.oneCell'=true:=by
 intro u hu
 rw [List.mem_flatMap] at hu
 obtain ⟨a,_,hu⟩:=hu
 exact one_S a u hu
theorem refIvInsert_spec (ρ:PH) (v:Value) (l:Iv) (x:Int × Int) (hv:SpAt ρ v l) (hcap:CapOK v) (hl:l.length≤1000000) :
  Makes Tryz.prog (fv 201) [v,.agg #[int x.1,int x.2]] [ρ] (fun r σ=>OwnS 152 2 r (insI l x).length ((insI l x).flatMap encS) σ):=by
 have hv2:=hv
 obtain ⟨q,c,rfl,hr⟩:=hv.val encS_len
 refine spec_in (cap:=[]) Tryz.func201 rfl rfl Tryz.ntmps201 rfl envZ (fun N β=>?_)
 refine Aa ?_;refine BH (BO rfl) rfl rfl rfl ?_;rintro _ _ ⟨b3,rfl,rfl⟩;refine Afa ?_;refine AZ ?_; rintro _ _ ⟨b,rfl,rfl⟩;refine Aaa ?_;refine Aai ?_;refine Aap ?_
 revert b; intro bo
 refine BA [0,3] (X:=Nat × (Value × PH)) (0,(.slice (some ⟨bo,0,none⟩) 0 0,sng bo (.cells #[] 152 (0,0)))) (fun z=>z.1≤l.length∧(∀ y∈l.take z.1,y.2<x.1)∧OwnS 152 2 z.2.1 z.1 ((l.take z.1).flatMap encS) z.2.2) (fun z=>[(6,int z.1),(5,z.2.1)]) (fun z=>[z.2.2,sng b3 (.cells #[int x.1,int x.2] 152 (0,0))]) (fun z=>l.length-z.1) pickZ ⟨by dsimp only; omega,by simp,OwnS.empty⟩ covZ selZ ?_
 rintro ⟨k,u,σ⟩ ⟨hk,hwhile,hO⟩
 dsimp only at hk hwhile hO ⊢
 have hit:=insI_take (x:=x) hk hwhile
 by_cases hlt:k<l.length
 ·have hx:=List.getElem?_eq_getElem hlt
  have htk:=List.take_succ_eq_append_getElem hlt
  have hdk:=List.drop_eq_getElem_cons hlt
  obtain ⟨b1,o1,rfl,hRd1,g0,g1⟩:=spRow hr hx
  generalize l[k]=w at hRd1 g0 g1 hx htk hdk
  by_cases hc:w.2<x.1
  ·refine AC ?_
   refine AC ?_
   refine A6 P0Z [] rfl (by kernel_rfl) Sel.nil ?_
   refine Ae2 ?_;refine D6 ?_;refine Ad1 ?_;refine Aau ?_;refine D6 ?_;refine Adg ?_;refine Ae8 ?_;refine Aev ?_;refine Abm ?_;refine AZ ?_; rintro _ _ ⟨b,rfl,rfl⟩
   refine BH (BI (by_:=16) (s:=2) (news:=[int w.1,int w.2]) rfl rfl rfl rfl rfl rfl rfl hO takeZ (cells_own memZ) rfl oneZ (by omega) (by simp only [maxLen]; omega) (by omega)) rfl rfl rfl ?_
   rintro u1 _ ⟨σ1,hO1,rfl⟩;refine Aaa ?_;refine Ae7 ?_;refine A2 ?_
   refine AT (k+1,(u1,σ1)) ⟨by dsimp only; omega,?_,?_⟩ (by dsimp only; omega) covZ selZ
   ·dsimp only
    rw [htk]
    intro y hy
    rcases List.mem_append.1 hy with hy|hy
    ·exact hwhile y hy
    ·simp only [List.mem_singleton] at hy; subst hy; exact hc
   ·dsimp only
    rw [htk,List.flatMap_append];exact hO1
  ·have hfin:insI l x=l.take k ++ absI (l.drop k) x:=by
    rw [hit]
    congr 1
    rw [hdk]
    show (if w.2<x.1 then _ else _)=_
    rw [if_neg hc]
   refine Acp ?_
   refine A6 P0Z [] rfl (by kernel_rfl) Sel.nil ?_
   refine Ae2 ?_;refine D6 ?_;refine Ad1 ?_;refine Aau ?_;refine DK ?_;refine BG ?_;refine Af1 ?_;refine Aap ?_;clear hwhile
   refine BA [0,3,5] (X:=Nat × (Int × Int)) (k,x) (fun z=>k≤z.1∧z.1≤l.length∧absI (l.drop k) x=absI (l.drop z.1) z.2) (fun z=>[(6,int z.1)]) (fun z=>[σ,sng b3 (.cells #[int z.2.1,int z.2.2] 152 (0,0))]) (fun z=>l.length-z.1) pickZ ⟨by dsimp only; omega,hk,rfl⟩ covZ selZ ?_
   rintro ⟨j,z⟩ ⟨hkj,hj,hA⟩
   dsimp only at hkj hj hA ⊢
   have hends:(∀ y,l[j]?=some y→z.2<y.1)→insI l x=l.take k ++ z::l.drop j:=fun hst=>by
    rw [hfin,hA]
    by_cases hjl:j<l.length
    ·rw [List.drop_eq_getElem_cons hjl]
     have:=hst _ (List.getElem?_eq_getElem hjl)
     unfold absI
     rw [if_neg (by omega)]
    ·rw [List.drop_eq_nil_of_le (by omega)]; rfl
   by_cases hjl:j<l.length
   ·have hy:=List.getElem?_eq_getElem hjl
    have hdr:=List.drop_eq_getElem_cons hjl
    obtain ⟨b6,o6,e6,hRd6,y0,y1⟩:=spRow hr hy
    simp only [Option.some.injEq,Addr.mk.injEq,and_true] at e6
    obtain ⟨rfl,rfl⟩:=e6
    generalize l[j]=y at hy hRd6 y0 y1 hdr
    by_cases hc2:y.1≤z.2
    ·have hA2:absI (l.drop j) z=absI (l.drop (j+1)) (min z.1 y.1,max z.2 y.2):=by
      rw [hdr]
      show (if y.1≤z.2 then _ else _)=_
      rw [if_pos hc2]
     refine Acp ?_
     refine A6 P0Z [] rfl (by kernel_rfl) Sel.nil ?_
     refine Ae2 ?_;refine D6 ?_;refine Agw ?_;refine ES ?_;refine Adg ?_;refine Ae8 ?_;refine AC ?_
     refine A6 (.q 0 (.q 1 (.q 2 (.q 3 (.q 4 (.q 5 (.q 6 (.q 7 (.q 8 (.q 9 (.q 10 (.q 11 (.q 12 (.q 13 (.q 14 (.q 15 (.q 16 (.l 17 .b .nil)))))))))))))))))) [] rfl (by kernel_rfl) Sel.nil ?_
     refine Aau ?_;refine Agk ?_;refine zd_min ?_;refine Aau ?_;refine Ado ?_;refine G6 ?_;refine CV ?_
     focus ((refine CF ?_; refine' FW rfl _ rfl rfl _ _; rotate_left; (focus (apply DV; exact rfl; exact rfl; exact takeZ; exact oneZ; exact rfl; exact rfl)); (focus (rintro _ _ ⟨_,rfl⟩ w hw; exact hw.sel selZ)); rintro _ _ ⟨rfl,rfl⟩))
     refine A7 ?_;refine Ae7 ?_;refine A2 ?_
     exact AT (j+1,(min z.1 y.1,max z.2 y.2)) ⟨by dsimp only; omega,by dsimp only; omega,by dsimp only; rw [hA,hA2]⟩ (by dsimp only; omega) covZ selZ
    ·have hE:=hends (fun y' hy'=>by rw [hy] at hy'; obtain rfl:=Option.some.inj hy'; omega)
     refine Acp ?_
     refine A6 P0Z [] rfl (by kernel_rfl) Sel.nil ?_
     refine Ae2 ?_;refine D6 ?_;refine Agw ?_;refine DZ ?_;refine BG ?_;refine Af1 ?_;refine AC ?_
     refine A6 (.q 0 (.q 1 (.p 4 (.p 5 (.p 6 (.l 2 .e (.l 3 .b (.l 7 .b (.q 8 .nil))))))))) [] rfl (by kernel_rfl) Sel.nil ?_
     refine AI ?_;refine BJ ?_;refine DO ?_;refine DO ?_;refine ED ?_;refine BF ?_; rintro _ _ ⟨b,rfl,rfl⟩
     refine CF (a_b rfl (BI (by_:=16) (s:=2) (news:=[int z.1,int z.2]) rfl rfl rfl rfl rfl rfl rfl hO takeZ (cells_own memZ) rfl oneZ (by omega) (by simp only [maxLen]; omega) (by omega)) rfl rfl rfl (fun _ _ _ w hw=>hw.sel Sel.nil) ?_)
     rintro u1 _ ⟨σ1,hO1,rfl⟩
     refine CF (a_b rfl (C4 (by_:=16) (s:=2) (σ:=ρ) (w0:=.slice (cutP (some ⟨b1,o1,none⟩) c j 2) (l.length-j) (c-j)) (news:=(l.drop j).flatMap encS) (m:=(l.drop j).length) rfl rfl rfl rfl rfl rfl rfl hO1 takeZ (slE_lo encS_len hv2 hcap.le hj rfl) (fun b o h=>cellsR h memZ) (ones_S _) (by rw [List.length_drop]; simp only [maxLen]; omega) (by rw [List.length_drop]; omega)) rfl rfl rfl (fun _ _ _ w hw=>hw.sel Sel.nil) ?_)
     rintro u2 _ ⟨σ2,hO2,rfl⟩;refine Adr ?_
     skip
     refine AO (res1 rfl rfl) rsubZ selZ ⟨σ2,?_,rfl⟩;rw [hE]
     have e:k+1+(l.drop j).length=(l.take k ++ z::l.drop j).length:=by rw [List.length_append,List.length_take,List.length_cons]; omega
     rw [e] at hO2;rw [List.flatMap_append,List.flatMap_cons,← List.append_assoc];exact hO2
   ·have hE:=hends (fun y' hy'=>by rw [List.getElem?_eq_none (by omega)] at hy'; simp at hy')
    refine Acp ?_
    refine A6 P0Z [] rfl (by kernel_rfl) Sel.nil ?_
    refine Ae2 ?_;refine DK ?_;refine Ac2 ?_;refine BM ?_;refine Af1 ?_;refine AC ?_
    refine A6 (.q 0 (.q 1 (.p 4 (.p 5 (.p 6 (.l 2 .e (.l 3 .b (.l 7 .b (.q 8 .nil))))))))) [] rfl (by kernel_rfl) Sel.nil ?_
    refine AI ?_;refine BJ ?_;refine DO ?_;refine DO ?_;refine ED ?_;refine BF ?_; rintro _ _ ⟨b,rfl,rfl⟩
    refine CF (a_b rfl (BI (by_:=16) (s:=2) (news:=[int z.1,int z.2]) rfl rfl rfl rfl rfl rfl rfl hO takeZ (cells_own memZ) rfl oneZ (by omega) (by simp only [maxLen]; omega) (by omega)) rfl rfl rfl (fun _ _ _ w hw=>hw.sel Sel.nil) ?_)
    rintro u1 _ ⟨σ1,hO1,rfl⟩
    refine CF (a_b rfl (C4 (by_:=16) (s:=2) (σ:=ρ) (w0:=.slice (cutP (some ⟨b1,o1,none⟩) c j 2) (l.length-j) (c-j)) (news:=(l.drop j).flatMap encS) (m:=(l.drop j).length) rfl rfl rfl rfl rfl rfl rfl hO1 takeZ (slE_lo encS_len hv2 hcap.le hj rfl) (fun b o h=>cellsR h memZ) (ones_S _) (by rw [List.length_drop]; simp only [maxLen]; omega) (by rw [List.length_drop]; omega)) rfl rfl rfl (fun _ _ _ w hw=>hw.sel Sel.nil) ?_)
    rintro u2 _ ⟨σ2,hO2,rfl⟩;refine Adr ?_
    skip
    refine AO (res1 rfl rfl) rsubZ selZ ⟨σ2,?_,rfl⟩;rw [hE]
    have e:k+1+(l.drop j).length=(l.take k ++ z::l.drop j).length:=by rw [List.length_append,List.length_take,List.length_cons]; omega
    rw [e] at hO2;rw [List.flatMap_append,List.flatMap_cons,← List.append_assoc];exact hO2
 ·have hfin:insI l x=l.take k ++ absI (l.drop k) x:=by
   rw [hit,List.drop_eq_nil_of_le (by omega)]
   rfl
  refine Acp ?_
  refine A6 P0Z [] rfl (by kernel_rfl) Sel.nil ?_
  refine Ae2 ?_;refine DK ?_;refine Ac2 ?_;refine BM ?_;refine Af1 ?_;refine Aap ?_;clear hwhile
  refine BA [0,3,5] (X:=Nat × (Int × Int)) (k,x) (fun z=>k≤z.1∧z.1≤l.length∧absI (l.drop k) x=absI (l.drop z.1) z.2) (fun z=>[(6,int z.1)]) (fun z=>[σ,sng b3 (.cells #[int z.2.1,int z.2.2] 152 (0,0))]) (fun z=>l.length-z.1) pickZ ⟨by dsimp only; omega,hk,rfl⟩ covZ selZ ?_
  rintro ⟨j,z⟩ ⟨hkj,hj,hA⟩
  dsimp only at hkj hj hA ⊢
  have hends:(∀ y,l[j]?=some y→z.2<y.1)→insI l x=l.take k ++ z::l.drop j:=fun hst=>by
   rw [hfin,hA]
   by_cases hjl:j<l.length
   ·rw [List.drop_eq_getElem_cons hjl]
    have:=hst _ (List.getElem?_eq_getElem hjl)
    unfold absI
    rw [if_neg (by omega)]
   ·rw [List.drop_eq_nil_of_le (by omega)]; rfl
  by_cases hjl:j<l.length
  ·exact absurd hjl (by omega)
  ·have hE:=hends (fun y' hy'=>by rw [List.getElem?_eq_none (by omega)] at hy'; simp at hy')
   refine Acp ?_
   refine A6 P0Z [] rfl (by kernel_rfl) Sel.nil ?_
   refine Ae2 ?_;refine DK ?_;refine Ac2 ?_;refine BM ?_;refine Af1 ?_;refine AC ?_
   refine A6 (.q 0 (.q 1 (.p 4 (.p 5 (.p 6 (.l 2 .e (.l 3 .b (.l 7 .b (.q 8 .nil))))))))) [] rfl (by kernel_rfl) Sel.nil ?_
   refine AI ?_;refine BJ ?_;refine DO ?_;refine DO ?_;refine ED ?_;refine BF ?_; rintro _ _ ⟨b,rfl,rfl⟩
   refine CF (a_b rfl (BI (by_:=16) (s:=2) (news:=[int z.1,int z.2]) rfl rfl rfl rfl rfl rfl rfl hO takeZ (cells_own memZ) rfl oneZ (by omega) (by simp only [maxLen]; omega) (by omega)) rfl rfl rfl (fun _ _ _ w hw=>hw.sel Sel.nil) ?_)
   rintro u1 _ ⟨σ1,hO1,rfl⟩
   refine CF (a_b rfl (C4 (by_:=16) (s:=2) (σ:=ρ) (w0:=.slice (cutP (q) c j 2) (l.length-j) (c-j)) (news:=(l.drop j).flatMap encS) (m:=(l.drop j).length) rfl rfl rfl rfl rfl rfl rfl hO1 takeZ (slE_lo encS_len hv2 hcap.le hj rfl) (fun b o h=>cellsR h memZ) (ones_S _) (by rw [List.length_drop]; simp only [maxLen]; omega) (by rw [List.length_drop]; omega)) rfl rfl rfl (fun _ _ _ w hw=>hw.sel Sel.nil) ?_)
   rintro u2 _ ⟨σ2,hO2,rfl⟩;refine Adr ?_
   skip
   refine AO (res1 rfl rfl) rsubZ selZ ⟨σ2,?_,rfl⟩;rw [hE]
   have e:k+1+(l.drop j).length=(l.take k ++ z::l.drop j).length:=by rw [List.length_append,List.length_take,List.length_cons]; omega
   rw [e] at hO2;rw [List.flatMap_append,List.flatMap_cons,← List.append_assoc];exact hO2
end Go.Proofs.YtjehnjhkcmobcaaGreat
namespace Go.Step
def waitT (qs:List Int) (hs:List Hd) (d:Dm) (n t:Int):List EA:=(rngI d.r t).map (fun u=>⟨⟨vtx d n u,vtx d n (u+1),roomT qs hs d n u⟩,-1,u⟩)
theorem waitT_nil (qs:List Int) (hs:List Hd) (d:Dm) (n:Int):waitT qs hs d n d.r=[]:=by
  unfold waitT;rw [rngI_nil (Int.le_refl _)]
  rfl
theorem waitT_snoc {qs:List Int} {hs:List Hd} {d:Dm} {n t:Int} (h:d.r≤t):waitT qs hs d n (t+1)=waitT qs hs d n t ++ [⟨⟨vtx d n t,vtx d n (t+1),roomT qs hs d n t⟩,-1,t⟩]:=by
  unfold waitT;rw [rngI_snoc h,List.map_append]
  rfl
theorem waitT_end (qs:List Int) (hs:List Hd) (d:Dm) (n:Int):waitT qs hs d n d.e=waitN qs hs d n:=rfl
theorem waitT_len (qs:List Int) (hs:List Hd) (d:Dm) (n t:Int):(waitT qs hs d n t).length=(t-d.r).toNat:=by unfold waitT; rw [List.length_map,rngI_len]
def conT (d:Dm) (c:Ct) (i:Int) (G:List (Int × Int)) (t:Int):List EA:=((rngI (max c.s d.r) t).filter (fun u=>memI G u)).map (conE d c i)
theorem conT_nil (d:Dm) (c:Ct) (i:Int) (G:List (Int × Int)):conT d c i G (max c.s d.r)=[]:=by
  unfold conT;rw [rngI_nil (Int.le_refl _)]
  rfl
theorem conT_snoc {d:Dm} {c:Ct} {i:Int} {G:List (Int × Int)} {t:Int} (h:max c.s d.r≤t):conT d c i G (t+1)=conT d c i G t ++ (if memI G t=true then [conE d c i t] else []):=by
  unfold conT;rw [rngI_snoc h,List.filter_append,List.map_append]
  congr 1
  by_cases hm:memI G t=true
  · rw [if_pos hm,List.filter_cons_of_pos hm]; rfl
  · rw [if_neg hm,List.filter_cons_of_neg hm]; rfl
theorem conT_len (d:Dm) (c:Ct) (i:Int) (G:List (Int × Int)) (t:Int):(conT d c i G t).length≤(t-max c.s d.r).toNat:=by
  unfold conT;rw [List.length_map];exact Nat.le_trans (List.length_filter_le _ _) (Nat.le_of_eq (rngI_len _ _))
section
variable {qs:List Int} {cs:List Ct} {bs:List Bk} {hs:List Hd} {d:Dm}
theorem conT_end (h:VOk qs cs bs hs d) {i:Nat} {c:Ct} (hc:cs[i]?=some c) {t:Int} (ht:¬ (t<c.e∧t+1+c.g≤d.e)) (h2:∀ u,max c.s d.r≤u→u<t→u<c.e∧u+1+c.g≤d.e):conT d c i (freeC cs bs i) t=conN cs bs d i:=by
  obtain ⟨n1,_,n3⟩:=h.free hc
  have k:=h.ct c (List.mem_of_getElem? hc)
  unfold conN;rw [hc]
  show _=(tickL d.r d.e c.g (freeC cs bs i)).map (conE d c i)
  unfold conT
  congr 1
  refine asc_ext ((rngI_asc _ _).filter _) (tickL_asc n1) (fun u=>?_)
  rw [mem_tickL,List.mem_filter,mem_rngI]
  constructor
  · rintro ⟨⟨a1,a2⟩,a3⟩
    have:=h2 u a1 a2
    exact ⟨a3,by omega,by omega⟩
  · rintro ⟨a1,a2,a3⟩
    have a4:=a1
    rw [n3,Bool.and_eq_true,decide_eq_true_eq] at a4
    refine ⟨⟨by omega,?_⟩,a1⟩
    by_cases hu:u<t
    · exact hu
    · exact absurd (by omega) ht
theorem VOk.waitA_le (h:VOk qs cs bs hs d) {m:Nat} (hm:m≤qs.length):(waitA qs hs d m).length≤1600:=by
  have h1:=waitA_len qs hs d m
  have h2:=h.nq
  have h3:=h.dm.2.2.2.2
  have h4:(d.e-d.r).toNat≤100:=by omega
  have:=Nat.mul_le_mul (show m≤16 by omega) h4
  omega
theorem VOk.conA_le (h:VOk qs cs bs hs d) {m:Nat} (hm:m≤cs.length):(conA cs bs d m).length≤6400:=by
  have h1:=h.conA_len m
  have h2:=h.nc
  have h3:=h.dm.2.2.2.2
  have h4:(d.e-d.r).toNat≤100:=by omega
  have:=Nat.mul_le_mul (show m≤64 by omega) h4
  omega
theorem VOk.free_chk (h:VOk qs cs bs hs d) {i:Nat} {c:Ct} (hc:cs[i]?=some c):chkI (freeC cs bs i)=0∧(freeC cs bs i).length≤513:=by
  obtain ⟨n1,n2,_⟩:=h.free hc
  have hl:(freeC cs bs i).length≤513:=by
    have hf:freeC cs bs i=gapsP c.e c.s (busyL bs i):=by unfold freeC; rw [hc]
    rw [hf]
    have a:=gapsP_len c.e (busyL bs i) c.s
    have b:=busyL_len bs i
    have:=h.nb
    omega
  have k:=h.ct c (List.mem_of_getElem? hc)
  refine ⟨chkI_of (by omega) n1 (fun x hx=>?_),hl⟩
  have a:=n1.1 x hx
  have b:=n2 x hx
  exact ⟨a,by omega,by omega⟩
end
end Go.Step
