/- Texts of this proof, one after the other; no conditions. -/
import Derived.Test.YtjehnjhkcmobcaaGreatWB10
import Derived.Test.YtjehnjhkcmobcaaGreatWB3
import Derived.Test.YtjehnjhkcmobcaaGreatWB8
import Derived.Test.YtjehnjhkcmobcaaGreatWB5
import Derived.Test.YtjehnjhkcmobcaaGreatWB6
import Derived.Test.YtjehnjhkcmobcaaGreatWB0
import Derived.Test.YtjehnjhkcmobcaaGreatWB2
import Derived.Test.YtjehnjhkcmobcaaGreatWB1
set_option linter.all false
/- Reserving. -/
namespace Go.Proofs.YtjehnjhkcmobcaaGreat
open Go.Eng Go.Step
set_option maxRecDepth 100000
set_option maxHeartbeats 4000000

theorem two_all {α:Type} {enc:α → List Value} {s:Nat} {σ1 σ2:PH} {w1 w2:Value} {l1 l2:List α} (h1:SlE enc s σ1 w1 l1) (h2:SlE enc s σ2 w2 l2):∀ (i:Nat) (w:Value) (l:List α),[w1,w2][i]? = some w → [l1,l2][i]? = some l → ∃ σ ∈ [σ1,σ2],SlE enc s σ w l:=by
 intro i w l e1 e2
 match i with
 | 0 =>
  simp at e1 e2
  subst e1;subst e2
  exact ⟨σ1,by simp,h1⟩
 | 1 =>
  simp at e1 e2
  subst e1;subst e2
  exact ⟨σ2,by simp,h2⟩
 | i + 2=>simp at e1
theorem flat2 {α:Type} (a b:List α):[a,b].flatten = a ++ b:=by simp
theorem tab_ok {qs:List Int} {cs:List Ct} {bs:List Bk} {hs:List Hd} (h:chkT qs cs bs hs = 0):bs.length ≤ 512 ∧ hs.length ≤ 512 ∧ qs.length ≤ 16:=by
 obtain ⟨p,b,hh⟩:=chkT_ok h
 have:=chkH_ok hh
 have:=chkB_ok b
 omega
theorem shB_of {qs:List Int} {cs:List Ct} {bs:List Bk} {hs:List Hd} {l:List Sh} (h:chkT qs cs bs hs = 0) (hE:firstE (rsvE cs bs l) l.length = 0):∀ x ∈ l,ShB cs x:=fun x hx=>by
 obtain ⟨p,b,hh⟩:=chkT_ok h
 obtain ⟨k1,k2⟩:=chkPl_ct p
 obtain ⟨c,h1,h2,h3,h4,h5,h6,h7⟩:=rsv1_ok ((rsv_facts hE).1 x hx).1
 have hk:=chkCt_all (k2 c (List.mem_of_getElem? h1)).1
 exact ⟨c,h1,h2,h3,by omega,by omega,by omega⟩
theorem rsv_lens {qs:List Int} {cs:List Ct} {bs:List Bk} {hs:List Hd} {l:List Sh} {R:List Bk} (h0:chkB qs cs bs = 0) (hE:firstE (rsvE cs bs l) l.length = 0) (rn:R.Nodup) (rm:∀ b,b ∈ R ↔ IsRun (ticksS l) b):∃ R' bs1 hs1,RsvOK qs cs bs hs l R' bs1 hs1 ∧ bs1.length = bs.length + R.length ∧ hs1.length = hs.length + (holdsA cs l qs.length).length:=by
 obtain ⟨R',bs1,hs1,hk⟩:=rsv_exists (qs:=qs) (hs:=hs) h0 hE
 obtain ⟨e1,e2⟩:=hk.lens
 have hp:R'.Perm R:=(List.perm_ext_iff_of_nodup hk.rn rn).2 (fun b=>by rw [hk.rm,rm])
 exact ⟨R',bs1,hs1,hk,by rw [e1,hp.length_eq],e2⟩
set_option maxHeartbeats 64000000 in
theorem Reserve_spec {ρ τ σ υ:PH} (ω:PH) {pq pc pb ph:Option Addr} {kq kc kb kh:Nat} {qs:List Int} {cs:List Ct} {bs:List Bk} {hs:List Hd} (hT:TbAt ρ τ σ υ pq pc pb ph kq kc kb kh qs cs bs hs) (v:Value) (l:List Sh) (hv:ShAt ω v l) (hll:l.length ≤ 500000) :
  Eng.Spec Tryz.prog (fv 10) [.agg #[.slice pq qs.length kq,.slice pc cs.length kc,.slice pb bs.length kb,.slice ph hs.length kh],v] [ρ,τ,σ,υ,ω] [] (fun r H'=>(∃ e,e ≠ 0 ∧ r = .tuple #[.agg #[.slice none 0 0,.slice none 0 0,.slice none 0 0,.slice none 0 0],int e] ∧ H' = [] ∧ RsvR qs cs bs hs l e [] []) ∨ (∃ (bs':List Bk) (hs':List Hd) (p1:Option Addr) (k1:Nat) (p2:Option Addr) (k2:Nat) (σ1 σ2:PH),r = .tuple #[.agg #[.slice pq qs.length kq,.slice pc cs.length kc,.slice p1 bs'.length k1,.slice p2 hs'.length k2],int 0] ∧ H' = [σ1,σ2] ∧ RsvR qs cs bs hs l 0 bs' hs' ∧ bs'.length ≤ 512 ∧ hs'.length ≤ 512 ∧ SlE encB 4 σ1 (.slice p1 bs'.length k1) bs' ∧ HdAt σ2 (.slice p2 hs'.length k2) hs')):=by
 have hlb:=hT.lb
 refine spec_in (cap:=[]) Tryz.func10 rfl rfl Tryz.ntmps10 rfl envZ (fun N β=>?_)
 refine Aa ?_;refine BH (BM rfl) rfl rfl rfl ?_;rintro _ _ ⟨b1,rfl,rfl⟩;refine AT (ρ:=sng b1 _) takeZ ?_
 have ct:=rdB b1 29 [.slice pq qs.length kq,.slice pc cs.length kc,.slice pb bs.length kb,.slice ph hs.length kh]
 have ct0:=rdC ct 0
 have ct1:=rdC ct 1
 have ct2:=rdC ct 2
 have ct3:=rdC ct 3
 have ctp:RdP (sng b1 (.cells #[.slice pq qs.length kq,.slice pc cs.length kc,.slice pb bs.length kb,.slice ph hs.length kh] 29 (0,0))) b1 0 [.slice pq qs.length kq,.slice pc cs.length kc]:=rdP_sng (xs:=[.slice pq qs.length kq,.slice pc cs.length kc,.slice pb bs.length kb,.slice ph hs.length kh]) rfl
 refine AY ?_; rintro _ _ ⟨b,rfl,rfl⟩;refine Abi ?_;refine Abp ?_
 revert b; intro b4
 refine A3 (chkTab_spec hT) rfl rfl rdZ rfl rfl ?_;rintro _ rfl
 by_cases h0:chkT qs cs bs hs = 0
 rotate_left
 ·refine CK ?_
  refine Aah ?_;refine Aa ?_;refine CH (BO (out:=[.slice none 0 0,.slice none 0 0,.slice none 0 0,.slice none 0 0]) rfl rfl rfl rfl rfl) rfl rfl rfl ?_;refine AU ?_; rintro _ _ ⟨rfl,rfl⟩;refine Aaa ?_
  exact AI (resSE (b1:=b4) (T:=29) (v1:=[.slice none 0 0,.slice none 0 0,.slice none 0 0,.slice none 0 0]) rfl rfl rfl rfl rfl (cells_own memZ)) rsubZ selZ (.inl ⟨1,by decide,rfl,rfl,.inl ⟨h0,rfl,rfl,rfl⟩⟩)
 obtain ⟨nb,nh,nq⟩:=tab_ok h0
 have hB0:=(chkT_ok h0).2.1
 refine Abb ?_;refine AC ?_;refine Abp ?_;refine AB ?_
 refine A3 (pCheckSh_spec ω hT v l hv (by omega) (by omega)) rfl rfl rdZ rfl rfl ?_
 rintro _ rfl
 by_cases hE:firstE (rsvE cs bs l) l.length = 0
 rotate_left
 ·refine AD ?_
  refine Adh ?_;refine Ab9 ?_;refine Aa ?_;refine CH (BO (out:=[.slice none 0 0,.slice none 0 0,.slice none 0 0,.slice none 0 0]) rfl rfl rfl rfl rfl) rfl rfl rfl ?_;refine AB ?_;refine AU ?_; rintro _ _ ⟨rfl,rfl⟩;refine Aaa ?_;exact AI (resSE (b1:=b4) (T:=29) (v1:=[.slice none 0 0,.slice none 0 0,.slice none 0 0,.slice none 0 0]) rfl rfl rfl rfl rfl (cells_own memZ)) rsubZ selZ (.inl ⟨firstE (rsvE cs bs l) l.length,hE,rfl,rfl,.inr ⟨h0,.inl ⟨hE,rfl,rfl,rfl⟩⟩⟩)
 rw [hE]
 have hok:=shB_of h0 hE
 have hnd:=ticks_nodup (rsv_facts hE).2
 have hok2:∀ x ∈ l,0 ≤ x.t ∧ x.t ≤ 1099511627776:=fun x hx=>by
  obtain ⟨_,_,_,_,h5,_⟩:=hok x hx
  exact h5
 refine Ad4 ?_;refine Abp ?_;refine AB ?_
 refine BC (holds_spec ω hT v l hv hll hok nh (by omega)) rfl rfl Takes.nil rdZ rfl rfl ?_
 rintro _ _ ⟨uh,e,χH,rfl,rfl,⟨hA,rfl⟩ | ⟨hA,hL,rfl⟩ | ⟨hA,hL,rfl,hOh⟩⟩
 ·refine AB ?_
  refine Aa6 ?_;refine Aan ?_;refine Aai ?_;refine Ab9 ?_;refine Aa ?_;refine CH (BO (out:=[.slice none 0 0,.slice none 0 0,.slice none 0 0,.slice none 0 0]) rfl rfl rfl rfl rfl) rfl rfl rfl ?_;refine AB ?_;refine AU ?_; rintro _ _ ⟨rfl,rfl⟩;refine Aaa ?_
  exact AI (resSE (b1:=b4) (T:=29) (v1:=[.slice none 0 0,.slice none 0 0,.slice none 0 0,.slice none 0 0]) rfl rfl rfl rfl rfl (cells_own memZ)) rsubZ selZ (.inl ⟨24,by decide,rfl,rfl,.inr ⟨h0,.inr ⟨hE,.inl ⟨hA,rfl,rfl,rfl⟩⟩⟩⟩)
 ·obtain ⟨R,bs1,hs1,hk⟩:=rsv_exists (qs:=qs) (hs:=hs) hB0 hE
  have hk2:=hk.lens
  refine Acc ?_;refine Ab9 ?_;refine Aa ?_;refine CH (BO (out:=[.slice none 0 0,.slice none 0 0,.slice none 0 0,.slice none 0 0]) rfl rfl rfl rfl rfl) rfl rfl rfl ?_;refine AB ?_;refine AU ?_; rintro _ _ ⟨rfl,rfl⟩;refine Aaa ?_
  exact AI (resSE (b1:=b4) (T:=29) (v1:=[.slice none 0 0,.slice none 0 0,.slice none 0 0,.slice none 0 0]) rfl rfl rfl rfl rfl (cells_own memZ)) rsubZ selZ (.inl ⟨4,by decide,rfl,rfl,.inr ⟨h0,.inr ⟨hE,.inr ⟨hA,R,bs1,hs1,hk,.inl ⟨by omega,rfl,rfl,rfl⟩⟩⟩⟩⟩)
 obtain ⟨puh,kuh,rfl⟩:=hOh.form
 have hHA:SlE encH 5 χH (.slice puh (holdsA cs l qs.length).length kuh) (holdsA cs l qs.length):=hOh.at
 refine Acc ?_;refine Abb ?_;refine AC ?_
 refine D4 (X:=Nat × List Bk × (Value × PH) × (Value × PH)) [2,4,5] (fun x=>x.2.1.Nodup ∧ (∀ b,b ∈ x.2.1 ↔ IsRun (ticksS l) b) ∧ x.2.1.length ≤ l.length ∧ OwnS 95 4 x.2.2.1.1 (bs ++ x.2.1).length ((bs ++ x.2.1).flatMap encB) x.2.2.1.2 ∧ OwnS 99 5 x.2.2.2.1 (hs ++ holdsA cs l qs.length).length ((hs ++ holdsA cs l qs.length).flatMap encH) x.2.2.2.2) (fun x=>[(9,.pointer (some ⟨x.1,0,none⟩))]) (fun x=>[sng x.1 (.cells #[.slice pq qs.length kq,.slice pc cs.length kc,x.2.2.1.1,x.2.2.2.1] 29 (0,0)),sng b4 (.cells #[.slice none 0 0,.slice none 0 0,.slice none 0 0,.slice none 0 0] 29 (0,0)),x.2.2.1.2,x.2.2.2.2]) pickZ ?_ ?_
 ·refine A8 (.q 0 (.q 1 (.q 2 (.q 3 (.q 4 (.q 8 (.q 9 (.q 10 (.l3 5 .e (.l3 6 .e (.l3 7 .e (.l2 11 .e (.l2 12 .e (.q 13 (.l 14 .e (.l 15 .b .nil))) 14 .e (.l 12 .e (.q 13 (.l 15 .b .nil)))) 14 .e (.l 11 .e (.l 12 .e (.q 13 (.l 15 .b .nil))))) 11 .e (.l2 7 .e (.l2 12 .e (.q 13 (.l 14 .e (.l 15 .b .nil))) 14 .e (.l 12 .e (.q 13 (.l 15 .b .nil)))) 14 .e (.l 7 .e (.l 12 .e (.q 13 (.l 15 .b .nil))))) 14 .e (.l2 7 .e (.l 11 .e (.l 12 .e (.q 13 (.l 15 .b .nil)))) 11 .e (.l 7 .e (.l 12 .e (.q 13 (.l 15 .b .nil)))))) 11 .e (.l2 6 .e (.l2 7 .e (.l2 12 .e (.q 13 (.l 14 .e (.l 15 .b .nil))) 14 .e (.l 12 .e (.q 13 (.l 15 .b .nil)))) 14 .e (.l 7 .e (.l 12 .e (.q 13 (.l 15 .b .nil))))) 14 .e (.l 6 .e (.l 7 .e (.l 12 .e (.q 13 (.l 15 .b .nil)))))) 14 .e (.l2 6 .e (.l2 7 .e (.l 11 .e (.l 12 .e (.q 13 (.l 15 .b .nil)))) 11 .e (.l 7 .e (.l 12 .e (.q 13 (.l 15 .b .nil))))) 11 .e (.l 6 .e (.l 7 .e (.l 12 .e (.q 13 (.l 15 .b .nil))))))) 11 .e (.l2 5 .e (.l2 6 .e (.l2 7 .e (.l2 12 .e (.q 13 (.l 14 .e (.l 15 .b .nil))) 14 .e (.l 12 .e (.q 13 (.l 15 .b .nil)))) 14 .e (.l 7 .e (.l 12 .e (.q 13 (.l 15 .b .nil))))) 14 .e (.l 6 .e (.l 7 .e (.l 12 .e (.q 13 (.l 15 .b .nil)))))) 14 .e (.l 5 .e (.l 6 .e (.l 7 .e (.l 12 .e (.q 13 (.l 15 .b .nil))))))) 14 .e (.l2 5 .e (.l2 6 .e (.l2 7 .e (.l 11 .e (.l 12 .e (.q 13 (.l 15 .b .nil)))) 11 .e (.l 7 .e (.l 12 .e (.q 13 (.l 15 .b .nil))))) 11 .e (.l 6 .e (.l 7 .e (.l 12 .e (.q 13 (.l 15 .b .nil)))))) 11 .e (.l 5 .e (.l 6 .e (.l 7 .e (.l 12 .e (.q 13 (.l 15 .b .nil)))))))))))))))) [] rfl (by kernel_rfl) Sel.nil ?_
  refine AW ?_;refine BQ ?_;refine Aar ?_;refine Acx ?_;refine AQ ?_;refine GU ?_ ?_ ?_
  ·refine BJ rfl (bookings_spec ω _ l hv (by omega) hok2 hnd) rfl rfl rdZ rfl rfl ?_; rintro uR _ ⟨χR,⟨R,hOR,hRl,hRn,hRm⟩,rfl⟩; obtain ⟨pR,kR,rfl⟩:=hOR.form
   refine GU ?_ ?_ ?_
   ·refine BP ?_; rintro _ _ ⟨b,rfl,rfl⟩
    refine GU ?_ ?_ ?_
    ·refine BJ rfl (concatBk_spec (sng _ _) [σ,χR] _ [_,_] [bs,R] (slE_sng encW_len) rfl (two_all hT.hb hOR.at) (show 2 ≤ 1000 by decide) (by simp only [totL,List.map_cons,List.map_nil,List.foldr_cons,List.foldr_nil]; omega)) rfl rfl rdZ rfl rfl ?_; rintro uB _ ⟨σB,hOB,rfl⟩; rw [flat2] at hOB; obtain ⟨pB,kB,rfl⟩:=hOB.form
     refine C8 ?_ ?_
     ·refine BP ?_; rintro _ _ ⟨b,rfl,rfl⟩
      refine C8 ?_ ?_
      ·refine BJ rfl (concatHd_spec (sng _ _) [υ,χH] _ [_,_] [hs,holdsA cs l qs.length] (slE_sng encW_len) rfl (two_all hT.hh hHA) (show 2 ≤ 1000 by decide) (by simp only [totL,List.map_cons,List.map_nil,List.foldr_cons,List.foldr_nil]; omega)) rfl rfl rdZ rfl rfl ?_; rintro uH _ ⟨σH,hOH,rfl⟩; rw [flat2] at hOH; obtain ⟨pH,kH,rfl⟩:=hOH.form
       refine CR rfl (BO (out:=[.slice pq qs.length kq,.slice pc cs.length kc,.slice pB _ kB,.slice pH _ kH]) rfl rfl rfl rfl rfl) rfl rfl rfl rfl ?_;refine C1 ?_; rintro _ _ ⟨b,rfl,rfl⟩
       refine B7 ?_; refine' DI rfl _ rfl rfl _ _; rotate_left; (focus (apply BS; exact rfl; exact rfl; exact takeZ; exact (by (repeat (first | exact (fun v hv=>absurd hv List.not_mem_nil) | (refine List.forall_mem_cons.2 ⟨?_,?_⟩; (focus (first | exact rfl | assumption))))); first | done | fail); exact rfl; exact rfl)); (focus (rintro _ _ ⟨_,rfl⟩ w hw; exact hw.sel Sel.nil)); rintro _ _ ⟨rfl,rfl⟩
       refine A5 ?_;exact BW (_,R,(.slice pB _ kB,σB),(.slice pH _ kH,σH)) ⟨hRn,hRm,hRl,hOB,hOH⟩ covZ selZ
      ·refine CF ?_; rintro _ _ ⟨b,rfl,rfl⟩
       refine B7 (BJ rfl (concatHd_spec (sng _ _) [υ,χH] _ [_,_] [hs,holdsA cs l qs.length] (slE_sng encW_len) rfl (two_all hT.hh hHA) (show 2 ≤ 1000 by decide) (by simp only [totL,List.map_cons,List.map_nil,List.foldr_cons,List.foldr_nil]; omega)) rfl rfl rdZ rfl rfl ?_); rintro uH _ ⟨σH,hOH,rfl⟩; rw [flat2] at hOH; obtain ⟨pH,kH,rfl⟩:=hOH.form
       refine CR rfl (BO (out:=[.slice pq qs.length kq,.slice pc cs.length kc,.slice pB _ kB,.slice pH _ kH]) rfl rfl rfl rfl rfl) rfl rfl rfl rfl ?_
       refine B7 ?_; refine' DI rfl _ rfl rfl _ _; rotate_left; (focus (apply BS; exact rfl; exact rfl; exact takeZ; exact (by (repeat (first | exact (fun v hv=>absurd hv List.not_mem_nil) | (refine List.forall_mem_cons.2 ⟨?_,?_⟩; (focus (first | exact rfl | assumption))))); first | done | fail); exact rfl; exact rfl)); (focus (rintro _ _ ⟨_,rfl⟩ w hw; exact hw.sel Sel.nil)); rintro _ _ ⟨rfl,rfl⟩
       refine A5 ?_;exact BW (_,R,(.slice pB _ kB,σB),(.slice pH _ kH,σH)) ⟨hRn,hRm,hRl,hOB,hOH⟩ covZ selZ
     ·refine CF ?_; rintro _ _ ⟨b,rfl,rfl⟩
      refine BK ?_; rintro _ _ ⟨b,rfl,rfl⟩
      refine B7 (BJ rfl (concatHd_spec (sng _ _) [υ,χH] _ [_,_] [hs,holdsA cs l qs.length] (slE_sng encW_len) rfl (two_all hT.hh hHA) (show 2 ≤ 1000 by decide) (by simp only [totL,List.map_cons,List.map_nil,List.foldr_cons,List.foldr_nil]; omega)) rfl rfl rdZ rfl rfl ?_); rintro uH _ ⟨σH,hOH,rfl⟩; rw [flat2] at hOH; obtain ⟨pH,kH,rfl⟩:=hOH.form
      refine CR rfl (BO (out:=[.slice pq qs.length kq,.slice pc cs.length kc,.slice pB _ kB,.slice pH _ kH]) rfl rfl rfl rfl rfl) rfl rfl rfl rfl ?_
      refine B7 ?_; refine' DI rfl _ rfl rfl _ _; rotate_left; (focus (apply BS; exact rfl; exact rfl; exact takeZ; exact (by (repeat (first | exact (fun v hv=>absurd hv List.not_mem_nil) | (refine List.forall_mem_cons.2 ⟨?_,?_⟩; (focus (first | exact rfl | assumption))))); first | done | fail); exact rfl; exact rfl)); (focus (rintro _ _ ⟨_,rfl⟩ w hw; exact hw.sel Sel.nil)); rintro _ _ ⟨rfl,rfl⟩
      refine A5 ?_;exact BW (_,R,(.slice pB _ kB,σB),(.slice pH _ kH,σH)) ⟨hRn,hRm,hRl,hOB,hOH⟩ covZ selZ
    ·refine BP ?_; rintro _ _ ⟨b,rfl,rfl⟩
     refine C8 ?_ ?_
     ·refine BJ rfl (concatBk_spec (sng _ _) [σ,χR] _ [_,_] [bs,R] (slE_sng encW_len) rfl (two_all hT.hb hOR.at) (show 2 ≤ 1000 by decide) (by simp only [totL,List.map_cons,List.map_nil,List.foldr_cons,List.foldr_nil]; omega)) rfl rfl rdZ rfl rfl ?_; rintro uB _ ⟨σB,hOB,rfl⟩; rw [flat2] at hOB; obtain ⟨pB,kB,rfl⟩:=hOB.form
      refine C8 ?_ ?_
      ·refine BJ rfl (concatHd_spec (sng _ _) [υ,χH] _ [_,_] [hs,holdsA cs l qs.length] (slE_sng encW_len) rfl (two_all hT.hh hHA) (show 2 ≤ 1000 by decide) (by simp only [totL,List.map_cons,List.map_nil,List.foldr_cons,List.foldr_nil]; omega)) rfl rfl rdZ rfl rfl ?_; rintro uH _ ⟨σH,hOH,rfl⟩; rw [flat2] at hOH; obtain ⟨pH,kH,rfl⟩:=hOH.form
       refine CR rfl (BO (out:=[.slice pq qs.length kq,.slice pc cs.length kc,.slice pB _ kB,.slice pH _ kH]) rfl rfl rfl rfl rfl) rfl rfl rfl rfl ?_;refine C1 ?_; rintro _ _ ⟨b,rfl,rfl⟩
       refine B7 ?_; refine' DI rfl _ rfl rfl _ _; rotate_left; (focus (apply BS; exact rfl; exact rfl; exact takeZ; exact (by (repeat (first | exact (fun v hv=>absurd hv List.not_mem_nil) | (refine List.forall_mem_cons.2 ⟨?_,?_⟩; (focus (first | exact rfl | assumption))))); first | done | fail); exact rfl; exact rfl)); (focus (rintro _ _ ⟨_,rfl⟩ w hw; exact hw.sel Sel.nil)); rintro _ _ ⟨rfl,rfl⟩
       refine A5 ?_;exact BW (_,R,(.slice pB _ kB,σB),(.slice pH _ kH,σH)) ⟨hRn,hRm,hRl,hOB,hOH⟩ covZ selZ
      ·refine CF ?_; rintro _ _ ⟨b,rfl,rfl⟩
       refine B7 (BJ rfl (concatHd_spec (sng _ _) [υ,χH] _ [_,_] [hs,holdsA cs l qs.length] (slE_sng encW_len) rfl (two_all hT.hh hHA) (show 2 ≤ 1000 by decide) (by simp only [totL,List.map_cons,List.map_nil,List.foldr_cons,List.foldr_nil]; omega)) rfl rfl rdZ rfl rfl ?_); rintro uH _ ⟨σH,hOH,rfl⟩; rw [flat2] at hOH; obtain ⟨pH,kH,rfl⟩:=hOH.form
       refine CR rfl (BO (out:=[.slice pq qs.length kq,.slice pc cs.length kc,.slice pB _ kB,.slice pH _ kH]) rfl rfl rfl rfl rfl) rfl rfl rfl rfl ?_
       refine B7 ?_; refine' DI rfl _ rfl rfl _ _; rotate_left; (focus (apply BS; exact rfl; exact rfl; exact takeZ; exact (by (repeat (first | exact (fun v hv=>absurd hv List.not_mem_nil) | (refine List.forall_mem_cons.2 ⟨?_,?_⟩; (focus (first | exact rfl | assumption))))); first | done | fail); exact rfl; exact rfl)); (focus (rintro _ _ ⟨_,rfl⟩ w hw; exact hw.sel Sel.nil)); rintro _ _ ⟨rfl,rfl⟩
       refine A5 ?_;exact BW (_,R,(.slice pB _ kB,σB),(.slice pH _ kH,σH)) ⟨hRn,hRm,hRl,hOB,hOH⟩ covZ selZ
     ·refine CF ?_; rintro _ _ ⟨b,rfl,rfl⟩
      refine B7 (BJ rfl (concatBk_spec (sng _ _) [σ,χR] _ [_,_] [bs,R] (slE_sng encW_len) rfl (two_all hT.hb hOR.at) (show 2 ≤ 1000 by decide) (by simp only [totL,List.map_cons,List.map_nil,List.foldr_cons,List.foldr_nil]; omega)) rfl rfl rdZ rfl rfl ?_); rintro uB _ ⟨σB,hOB,rfl⟩; rw [flat2] at hOB; obtain ⟨pB,kB,rfl⟩:=hOB.form
      refine B7 (BJ rfl (concatHd_spec (sng _ _) [υ,χH] _ [_,_] [hs,holdsA cs l qs.length] (slE_sng encW_len) rfl (two_all hT.hh hHA) (show 2 ≤ 1000 by decide) (by simp only [totL,List.map_cons,List.map_nil,List.foldr_cons,List.foldr_nil]; omega)) rfl rfl rdZ rfl rfl ?_); rintro uH _ ⟨σH,hOH,rfl⟩; rw [flat2] at hOH; obtain ⟨pH,kH,rfl⟩:=hOH.form
      refine CR rfl (BO (out:=[.slice pq qs.length kq,.slice pc cs.length kc,.slice pB _ kB,.slice pH _ kH]) rfl rfl rfl rfl rfl) rfl rfl rfl rfl ?_
      refine B7 ?_; refine' DI rfl _ rfl rfl _ _; rotate_left; (focus (apply BS; exact rfl; exact rfl; exact takeZ; exact (by (repeat (first | exact (fun v hv=>absurd hv List.not_mem_nil) | (refine List.forall_mem_cons.2 ⟨?_,?_⟩; (focus (first | exact rfl | assumption))))); first | done | fail); exact rfl; exact rfl)); (focus (rintro _ _ ⟨_,rfl⟩ w hw; exact hw.sel Sel.nil)); rintro _ _ ⟨rfl,rfl⟩
      refine A5 ?_;exact BW (_,R,(.slice pB _ kB,σB),(.slice pH _ kH,σH)) ⟨hRn,hRm,hRl,hOB,hOH⟩ covZ selZ
    ·refine CF ?_; rintro _ _ ⟨b,rfl,rfl⟩
     refine C8 ?_ ?_
     ·refine BJ rfl (concatBk_spec (sng _ _) [σ,χR] _ [_,_] [bs,R] (slE_sng encW_len) rfl (two_all hT.hb hOR.at) (show 2 ≤ 1000 by decide) (by simp only [totL,List.map_cons,List.map_nil,List.foldr_cons,List.foldr_nil]; omega)) rfl rfl rdZ rfl rfl ?_; rintro uB _ ⟨σB,hOB,rfl⟩; rw [flat2] at hOB; obtain ⟨pB,kB,rfl⟩:=hOB.form
      refine BK ?_; rintro _ _ ⟨b,rfl,rfl⟩
      refine B7 (BJ rfl (concatHd_spec (sng _ _) [υ,χH] _ [_,_] [hs,holdsA cs l qs.length] (slE_sng encW_len) rfl (two_all hT.hh hHA) (show 2 ≤ 1000 by decide) (by simp only [totL,List.map_cons,List.map_nil,List.foldr_cons,List.foldr_nil]; omega)) rfl rfl rdZ rfl rfl ?_); rintro uH _ ⟨σH,hOH,rfl⟩; rw [flat2] at hOH; obtain ⟨pH,kH,rfl⟩:=hOH.form
      refine CR rfl (BO (out:=[.slice pq qs.length kq,.slice pc cs.length kc,.slice pB _ kB,.slice pH _ kH]) rfl rfl rfl rfl rfl) rfl rfl rfl rfl ?_
      refine B7 ?_; refine' DI rfl _ rfl rfl _ _; rotate_left; (focus (apply BS; exact rfl; exact rfl; exact takeZ; exact (by (repeat (first | exact (fun v hv=>absurd hv List.not_mem_nil) | (refine List.forall_mem_cons.2 ⟨?_,?_⟩; (focus (first | exact rfl | assumption))))); first | done | fail); exact rfl; exact rfl)); (focus (rintro _ _ ⟨_,rfl⟩ w hw; exact hw.sel Sel.nil)); rintro _ _ ⟨rfl,rfl⟩
      refine A5 ?_;exact BW (_,R,(.slice pB _ kB,σB),(.slice pH _ kH,σH)) ⟨hRn,hRm,hRl,hOB,hOH⟩ covZ selZ
     ·refine BP ?_; rintro _ _ ⟨b,rfl,rfl⟩
      refine B7 (BJ rfl (concatBk_spec (sng _ _) [σ,χR] _ [_,_] [bs,R] (slE_sng encW_len) rfl (two_all hT.hb hOR.at) (show 2 ≤ 1000 by decide) (by simp only [totL,List.map_cons,List.map_nil,List.foldr_cons,List.foldr_nil]; omega)) rfl rfl rdZ rfl rfl ?_); rintro uB _ ⟨σB,hOB,rfl⟩; rw [flat2] at hOB; obtain ⟨pB,kB,rfl⟩:=hOB.form
      refine B7 (BJ rfl (concatHd_spec (sng _ _) [υ,χH] _ [_,_] [hs,holdsA cs l qs.length] (slE_sng encW_len) rfl (two_all hT.hh hHA) (show 2 ≤ 1000 by decide) (by simp only [totL,List.map_cons,List.map_nil,List.foldr_cons,List.foldr_nil]; omega)) rfl rfl rdZ rfl rfl ?_); rintro uH _ ⟨σH,hOH,rfl⟩; rw [flat2] at hOH; obtain ⟨pH,kH,rfl⟩:=hOH.form
      refine CR rfl (BO (out:=[.slice pq qs.length kq,.slice pc cs.length kc,.slice pB _ kB,.slice pH _ kH]) rfl rfl rfl rfl rfl) rfl rfl rfl rfl ?_
      refine B7 ?_; refine' DI rfl _ rfl rfl _ _; rotate_left; (focus (apply BS; exact rfl; exact rfl; exact takeZ; exact (by (repeat (first | exact (fun v hv=>absurd hv List.not_mem_nil) | (refine List.forall_mem_cons.2 ⟨?_,?_⟩; (focus (first | exact rfl | assumption))))); first | done | fail); exact rfl; exact rfl)); (focus (rintro _ _ ⟨_,rfl⟩ w hw; exact hw.sel Sel.nil)); rintro _ _ ⟨rfl,rfl⟩
      refine A5 ?_;exact BW (_,R,(.slice pB _ kB,σB),(.slice pH _ kH,σH)) ⟨hRn,hRm,hRl,hOB,hOH⟩ covZ selZ
   ·refine BP ?_; rintro _ _ ⟨b,rfl,rfl⟩
    refine C8 ?_ ?_
    ·refine BP ?_; rintro _ _ ⟨b,rfl,rfl⟩
     refine C8 ?_ ?_
     ·refine BJ rfl (concatBk_spec (sng _ _) [σ,χR] _ [_,_] [bs,R] (slE_sng encW_len) rfl (two_all hT.hb hOR.at) (show 2 ≤ 1000 by decide) (by simp only [totL,List.map_cons,List.map_nil,List.foldr_cons,List.foldr_nil]; omega)) rfl rfl rdZ rfl rfl ?_; rintro uB _ ⟨σB,hOB,rfl⟩; rw [flat2] at hOB; obtain ⟨pB,kB,rfl⟩:=hOB.form
      refine C8 ?_ ?_
      ·refine BJ rfl (concatHd_spec (sng _ _) [υ,χH] _ [_,_] [hs,holdsA cs l qs.length] (slE_sng encW_len) rfl (two_all hT.hh hHA) (show 2 ≤ 1000 by decide) (by simp only [totL,List.map_cons,List.map_nil,List.foldr_cons,List.foldr_nil]; omega)) rfl rfl rdZ rfl rfl ?_; rintro uH _ ⟨σH,hOH,rfl⟩; rw [flat2] at hOH; obtain ⟨pH,kH,rfl⟩:=hOH.form
       refine CR rfl (BO (out:=[.slice pq qs.length kq,.slice pc cs.length kc,.slice pB _ kB,.slice pH _ kH]) rfl rfl rfl rfl rfl) rfl rfl rfl rfl ?_;refine C1 ?_; rintro _ _ ⟨b,rfl,rfl⟩
       refine B7 ?_; refine' DI rfl _ rfl rfl _ _; rotate_left; (focus (apply BS; exact rfl; exact rfl; exact takeZ; exact (by (repeat (first | exact (fun v hv=>absurd hv List.not_mem_nil) | (refine List.forall_mem_cons.2 ⟨?_,?_⟩; (focus (first | exact rfl | assumption))))); first | done | fail); exact rfl; exact rfl)); (focus (rintro _ _ ⟨_,rfl⟩ w hw; exact hw.sel Sel.nil)); rintro _ _ ⟨rfl,rfl⟩
       refine A5 ?_;exact BW (_,R,(.slice pB _ kB,σB),(.slice pH _ kH,σH)) ⟨hRn,hRm,hRl,hOB,hOH⟩ covZ selZ
      ·refine CF ?_; rintro _ _ ⟨b,rfl,rfl⟩
       refine B7 (BJ rfl (concatHd_spec (sng _ _) [υ,χH] _ [_,_] [hs,holdsA cs l qs.length] (slE_sng encW_len) rfl (two_all hT.hh hHA) (show 2 ≤ 1000 by decide) (by simp only [totL,List.map_cons,List.map_nil,List.foldr_cons,List.foldr_nil]; omega)) rfl rfl rdZ rfl rfl ?_); rintro uH _ ⟨σH,hOH,rfl⟩; rw [flat2] at hOH; obtain ⟨pH,kH,rfl⟩:=hOH.form
       refine CR rfl (BO (out:=[.slice pq qs.length kq,.slice pc cs.length kc,.slice pB _ kB,.slice pH _ kH]) rfl rfl rfl rfl rfl) rfl rfl rfl rfl ?_
       refine B7 ?_; refine' DI rfl _ rfl rfl _ _; rotate_left; (focus (apply BS; exact rfl; exact rfl; exact takeZ; exact (by (repeat (first | exact (fun v hv=>absurd hv List.not_mem_nil) | (refine List.forall_mem_cons.2 ⟨?_,?_⟩; (focus (first | exact rfl | assumption))))); first | done | fail); exact rfl; exact rfl)); (focus (rintro _ _ ⟨_,rfl⟩ w hw; exact hw.sel Sel.nil)); rintro _ _ ⟨rfl,rfl⟩
       refine A5 ?_;exact BW (_,R,(.slice pB _ kB,σB),(.slice pH _ kH,σH)) ⟨hRn,hRm,hRl,hOB,hOH⟩ covZ selZ
     ·refine CF ?_; rintro _ _ ⟨b,rfl,rfl⟩
      refine B7 (BJ rfl (concatBk_spec (sng _ _) [σ,χR] _ [_,_] [bs,R] (slE_sng encW_len) rfl (two_all hT.hb hOR.at) (show 2 ≤ 1000 by decide) (by simp only [totL,List.map_cons,List.map_nil,List.foldr_cons,List.foldr_nil]; omega)) rfl rfl rdZ rfl rfl ?_); rintro uB _ ⟨σB,hOB,rfl⟩; rw [flat2] at hOB; obtain ⟨pB,kB,rfl⟩:=hOB.form
      refine B7 (BJ rfl (concatHd_spec (sng _ _) [υ,χH] _ [_,_] [hs,holdsA cs l qs.length] (slE_sng encW_len) rfl (two_all hT.hh hHA) (show 2 ≤ 1000 by decide) (by simp only [totL,List.map_cons,List.map_nil,List.foldr_cons,List.foldr_nil]; omega)) rfl rfl rdZ rfl rfl ?_); rintro uH _ ⟨σH,hOH,rfl⟩; rw [flat2] at hOH; obtain ⟨pH,kH,rfl⟩:=hOH.form
      refine CR rfl (BO (out:=[.slice pq qs.length kq,.slice pc cs.length kc,.slice pB _ kB,.slice pH _ kH]) rfl rfl rfl rfl rfl) rfl rfl rfl rfl ?_
      refine B7 ?_; refine' DI rfl _ rfl rfl _ _; rotate_left; (focus (apply BS; exact rfl; exact rfl; exact takeZ; exact (by (repeat (first | exact (fun v hv=>absurd hv List.not_mem_nil) | (refine List.forall_mem_cons.2 ⟨?_,?_⟩; (focus (first | exact rfl | assumption))))); first | done | fail); exact rfl; exact rfl)); (focus (rintro _ _ ⟨_,rfl⟩ w hw; exact hw.sel Sel.nil)); rintro _ _ ⟨rfl,rfl⟩
      refine A5 ?_;exact BW (_,R,(.slice pB _ kB,σB),(.slice pH _ kH,σH)) ⟨hRn,hRm,hRl,hOB,hOH⟩ covZ selZ
    ·refine CF ?_; rintro _ _ ⟨b,rfl,rfl⟩
     refine BK ?_; rintro _ _ ⟨b,rfl,rfl⟩
     refine B7 (BJ rfl (concatBk_spec (sng _ _) [σ,χR] _ [_,_] [bs,R] (slE_sng encW_len) rfl (two_all hT.hb hOR.at) (show 2 ≤ 1000 by decide) (by simp only [totL,List.map_cons,List.map_nil,List.foldr_cons,List.foldr_nil]; omega)) rfl rfl rdZ rfl rfl ?_); rintro uB _ ⟨σB,hOB,rfl⟩; rw [flat2] at hOB; obtain ⟨pB,kB,rfl⟩:=hOB.form
     refine B7 (BJ rfl (concatHd_spec (sng _ _) [υ,χH] _ [_,_] [hs,holdsA cs l qs.length] (slE_sng encW_len) rfl (two_all hT.hh hHA) (show 2 ≤ 1000 by decide) (by simp only [totL,List.map_cons,List.map_nil,List.foldr_cons,List.foldr_nil]; omega)) rfl rfl rdZ rfl rfl ?_); rintro uH _ ⟨σH,hOH,rfl⟩; rw [flat2] at hOH; obtain ⟨pH,kH,rfl⟩:=hOH.form
     refine CR rfl (BO (out:=[.slice pq qs.length kq,.slice pc cs.length kc,.slice pB _ kB,.slice pH _ kH]) rfl rfl rfl rfl rfl) rfl rfl rfl rfl ?_
     refine B7 ?_; refine' DI rfl _ rfl rfl _ _; rotate_left; (focus (apply BS; exact rfl; exact rfl; exact takeZ; exact (by (repeat (first | exact (fun v hv=>absurd hv List.not_mem_nil) | (refine List.forall_mem_cons.2 ⟨?_,?_⟩; (focus (first | exact rfl | assumption))))); first | done | fail); exact rfl; exact rfl)); (focus (rintro _ _ ⟨_,rfl⟩ w hw; exact hw.sel Sel.nil)); rintro _ _ ⟨rfl,rfl⟩
     refine A5 ?_;exact BW (_,R,(.slice pB _ kB,σB),(.slice pH _ kH,σH)) ⟨hRn,hRm,hRl,hOB,hOH⟩ covZ selZ
   ·refine CF ?_; rintro _ _ ⟨b,rfl,rfl⟩
    refine C8 ?_ ?_
    ·refine BP ?_; rintro _ _ ⟨b,rfl,rfl⟩
     refine C8 ?_ ?_
     ·refine BJ rfl (concatBk_spec (sng _ _) [σ,χR] _ [_,_] [bs,R] (slE_sng encW_len) rfl (two_all hT.hb hOR.at) (show 2 ≤ 1000 by decide) (by simp only [totL,List.map_cons,List.map_nil,List.foldr_cons,List.foldr_nil]; omega)) rfl rfl rdZ rfl rfl ?_; rintro uB _ ⟨σB,hOB,rfl⟩; rw [flat2] at hOB; obtain ⟨pB,kB,rfl⟩:=hOB.form
      refine BK ?_; rintro _ _ ⟨b,rfl,rfl⟩
      refine B7 (BJ rfl (concatHd_spec (sng _ _) [υ,χH] _ [_,_] [hs,holdsA cs l qs.length] (slE_sng encW_len) rfl (two_all hT.hh hHA) (show 2 ≤ 1000 by decide) (by simp only [totL,List.map_cons,List.map_nil,List.foldr_cons,List.foldr_nil]; omega)) rfl rfl rdZ rfl rfl ?_); rintro uH _ ⟨σH,hOH,rfl⟩; rw [flat2] at hOH; obtain ⟨pH,kH,rfl⟩:=hOH.form
      refine CR rfl (BO (out:=[.slice pq qs.length kq,.slice pc cs.length kc,.slice pB _ kB,.slice pH _ kH]) rfl rfl rfl rfl rfl) rfl rfl rfl rfl ?_
      refine B7 ?_; refine' DI rfl _ rfl rfl _ _; rotate_left; (focus (apply BS; exact rfl; exact rfl; exact takeZ; exact (by (repeat (first | exact (fun v hv=>absurd hv List.not_mem_nil) | (refine List.forall_mem_cons.2 ⟨?_,?_⟩; (focus (first | exact rfl | assumption))))); first | done | fail); exact rfl; exact rfl)); (focus (rintro _ _ ⟨_,rfl⟩ w hw; exact hw.sel Sel.nil)); rintro _ _ ⟨rfl,rfl⟩
      refine A5 ?_;exact BW (_,R,(.slice pB _ kB,σB),(.slice pH _ kH,σH)) ⟨hRn,hRm,hRl,hOB,hOH⟩ covZ selZ
     ·refine BP ?_; rintro _ _ ⟨b,rfl,rfl⟩
      refine B7 (BJ rfl (concatBk_spec (sng _ _) [σ,χR] _ [_,_] [bs,R] (slE_sng encW_len) rfl (two_all hT.hb hOR.at) (show 2 ≤ 1000 by decide) (by simp only [totL,List.map_cons,List.map_nil,List.foldr_cons,List.foldr_nil]; omega)) rfl rfl rdZ rfl rfl ?_); rintro uB _ ⟨σB,hOB,rfl⟩; rw [flat2] at hOB; obtain ⟨pB,kB,rfl⟩:=hOB.form
      refine B7 (BJ rfl (concatHd_spec (sng _ _) [υ,χH] _ [_,_] [hs,holdsA cs l qs.length] (slE_sng encW_len) rfl (two_all hT.hh hHA) (show 2 ≤ 1000 by decide) (by simp only [totL,List.map_cons,List.map_nil,List.foldr_cons,List.foldr_nil]; omega)) rfl rfl rdZ rfl rfl ?_); rintro uH _ ⟨σH,hOH,rfl⟩; rw [flat2] at hOH; obtain ⟨pH,kH,rfl⟩:=hOH.form
      refine CR rfl (BO (out:=[.slice pq qs.length kq,.slice pc cs.length kc,.slice pB _ kB,.slice pH _ kH]) rfl rfl rfl rfl rfl) rfl rfl rfl rfl ?_
      refine B7 ?_; refine' DI rfl _ rfl rfl _ _; rotate_left; (focus (apply BS; exact rfl; exact rfl; exact takeZ; exact (by (repeat (first | exact (fun v hv=>absurd hv List.not_mem_nil) | (refine List.forall_mem_cons.2 ⟨?_,?_⟩; (focus (first | exact rfl | assumption))))); first | done | fail); exact rfl; exact rfl)); (focus (rintro _ _ ⟨_,rfl⟩ w hw; exact hw.sel Sel.nil)); rintro _ _ ⟨rfl,rfl⟩
      refine A5 ?_;exact BW (_,R,(.slice pB _ kB,σB),(.slice pH _ kH,σH)) ⟨hRn,hRm,hRl,hOB,hOH⟩ covZ selZ
    ·refine BP ?_; rintro _ _ ⟨b,rfl,rfl⟩
     refine BK ?_; rintro _ _ ⟨b,rfl,rfl⟩
     refine B7 (BJ rfl (concatBk_spec (sng _ _) [σ,χR] _ [_,_] [bs,R] (slE_sng encW_len) rfl (two_all hT.hb hOR.at) (show 2 ≤ 1000 by decide) (by simp only [totL,List.map_cons,List.map_nil,List.foldr_cons,List.foldr_nil]; omega)) rfl rfl rdZ rfl rfl ?_); rintro uB _ ⟨σB,hOB,rfl⟩; rw [flat2] at hOB; obtain ⟨pB,kB,rfl⟩:=hOB.form
     refine B7 (BJ rfl (concatHd_spec (sng _ _) [υ,χH] _ [_,_] [hs,holdsA cs l qs.length] (slE_sng encW_len) rfl (two_all hT.hh hHA) (show 2 ≤ 1000 by decide) (by simp only [totL,List.map_cons,List.map_nil,List.foldr_cons,List.foldr_nil]; omega)) rfl rfl rdZ rfl rfl ?_); rintro uH _ ⟨σH,hOH,rfl⟩; rw [flat2] at hOH; obtain ⟨pH,kH,rfl⟩:=hOH.form
     refine CR rfl (BO (out:=[.slice pq qs.length kq,.slice pc cs.length kc,.slice pB _ kB,.slice pH _ kH]) rfl rfl rfl rfl rfl) rfl rfl rfl rfl ?_
     refine B7 ?_; refine' DI rfl _ rfl rfl _ _; rotate_left; (focus (apply BS; exact rfl; exact rfl; exact takeZ; exact (by (repeat (first | exact (fun v hv=>absurd hv List.not_mem_nil) | (refine List.forall_mem_cons.2 ⟨?_,?_⟩; (focus (first | exact rfl | assumption))))); first | done | fail); exact rfl; exact rfl)); (focus (rintro _ _ ⟨_,rfl⟩ w hw; exact hw.sel Sel.nil)); rintro _ _ ⟨rfl,rfl⟩
     refine A5 ?_;exact BW (_,R,(.slice pB _ kB,σB),(.slice pH _ kH,σH)) ⟨hRn,hRm,hRl,hOB,hOH⟩ covZ selZ
  ·refine BP ?_; rintro _ _ ⟨b,rfl,rfl⟩
   refine C8 ?_ ?_
   ·refine BJ rfl (bookings_spec ω _ l hv (by omega) hok2 hnd) rfl rfl rdZ rfl rfl ?_; rintro uR _ ⟨χR,⟨R,hOR,hRl,hRn,hRm⟩,rfl⟩; obtain ⟨pR,kR,rfl⟩:=hOR.form
    refine C8 ?_ ?_
    ·refine BP ?_; rintro _ _ ⟨b,rfl,rfl⟩
     refine C8 ?_ ?_
     ·refine BJ rfl (concatBk_spec (sng _ _) [σ,χR] _ [_,_] [bs,R] (slE_sng encW_len) rfl (two_all hT.hb hOR.at) (show 2 ≤ 1000 by decide) (by simp only [totL,List.map_cons,List.map_nil,List.foldr_cons,List.foldr_nil]; omega)) rfl rfl rdZ rfl rfl ?_; rintro uB _ ⟨σB,hOB,rfl⟩; rw [flat2] at hOB; obtain ⟨pB,kB,rfl⟩:=hOB.form
      refine C8 ?_ ?_
      ·refine BJ rfl (concatHd_spec (sng _ _) [υ,χH] _ [_,_] [hs,holdsA cs l qs.length] (slE_sng encW_len) rfl (two_all hT.hh hHA) (show 2 ≤ 1000 by decide) (by simp only [totL,List.map_cons,List.map_nil,List.foldr_cons,List.foldr_nil]; omega)) rfl rfl rdZ rfl rfl ?_; rintro uH _ ⟨σH,hOH,rfl⟩; rw [flat2] at hOH; obtain ⟨pH,kH,rfl⟩:=hOH.form
       refine CR rfl (BO (out:=[.slice pq qs.length kq,.slice pc cs.length kc,.slice pB _ kB,.slice pH _ kH]) rfl rfl rfl rfl rfl) rfl rfl rfl rfl ?_;refine C1 ?_; rintro _ _ ⟨b,rfl,rfl⟩
       refine B7 ?_; refine' DI rfl _ rfl rfl _ _; rotate_left; (focus (apply BS; exact rfl; exact rfl; exact takeZ; exact (by (repeat (first | exact (fun v hv=>absurd hv List.not_mem_nil) | (refine List.forall_mem_cons.2 ⟨?_,?_⟩; (focus (first | exact rfl | assumption))))); first | done | fail); exact rfl; exact rfl)); (focus (rintro _ _ ⟨_,rfl⟩ w hw; exact hw.sel Sel.nil)); rintro _ _ ⟨rfl,rfl⟩
       refine A5 ?_;exact BW (_,R,(.slice pB _ kB,σB),(.slice pH _ kH,σH)) ⟨hRn,hRm,hRl,hOB,hOH⟩ covZ selZ
      ·refine CF ?_; rintro _ _ ⟨b,rfl,rfl⟩
       refine B7 (BJ rfl (concatHd_spec (sng _ _) [υ,χH] _ [_,_] [hs,holdsA cs l qs.length] (slE_sng encW_len) rfl (two_all hT.hh hHA) (show 2 ≤ 1000 by decide) (by simp only [totL,List.map_cons,List.map_nil,List.foldr_cons,List.foldr_nil]; omega)) rfl rfl rdZ rfl rfl ?_); rintro uH _ ⟨σH,hOH,rfl⟩; rw [flat2] at hOH; obtain ⟨pH,kH,rfl⟩:=hOH.form
       refine CR rfl (BO (out:=[.slice pq qs.length kq,.slice pc cs.length kc,.slice pB _ kB,.slice pH _ kH]) rfl rfl rfl rfl rfl) rfl rfl rfl rfl ?_
       refine B7 ?_; refine' DI rfl _ rfl rfl _ _; rotate_left; (focus (apply BS; exact rfl; exact rfl; exact takeZ; exact (by (repeat (first | exact (fun v hv=>absurd hv List.not_mem_nil) | (refine List.forall_mem_cons.2 ⟨?_,?_⟩; (focus (first | exact rfl | assumption))))); first | done | fail); exact rfl; exact rfl)); (focus (rintro _ _ ⟨_,rfl⟩ w hw; exact hw.sel Sel.nil)); rintro _ _ ⟨rfl,rfl⟩
       refine A5 ?_;exact BW (_,R,(.slice pB _ kB,σB),(.slice pH _ kH,σH)) ⟨hRn,hRm,hRl,hOB,hOH⟩ covZ selZ
     ·refine CF ?_; rintro _ _ ⟨b,rfl,rfl⟩
      refine B7 (BJ rfl (concatBk_spec (sng _ _) [σ,χR] _ [_,_] [bs,R] (slE_sng encW_len) rfl (two_all hT.hb hOR.at) (show 2 ≤ 1000 by decide) (by simp only [totL,List.map_cons,List.map_nil,List.foldr_cons,List.foldr_nil]; omega)) rfl rfl rdZ rfl rfl ?_); rintro uB _ ⟨σB,hOB,rfl⟩; rw [flat2] at hOB; obtain ⟨pB,kB,rfl⟩:=hOB.form
      refine B7 (BJ rfl (concatHd_spec (sng _ _) [υ,χH] _ [_,_] [hs,holdsA cs l qs.length] (slE_sng encW_len) rfl (two_all hT.hh hHA) (show 2 ≤ 1000 by decide) (by simp only [totL,List.map_cons,List.map_nil,List.foldr_cons,List.foldr_nil]; omega)) rfl rfl rdZ rfl rfl ?_); rintro uH _ ⟨σH,hOH,rfl⟩; rw [flat2] at hOH; obtain ⟨pH,kH,rfl⟩:=hOH.form
      refine CR rfl (BO (out:=[.slice pq qs.length kq,.slice pc cs.length kc,.slice pB _ kB,.slice pH _ kH]) rfl rfl rfl rfl rfl) rfl rfl rfl rfl ?_
      refine B7 ?_; refine' DI rfl _ rfl rfl _ _; rotate_left; (focus (apply BS; exact rfl; exact rfl; exact takeZ; exact (by (repeat (first | exact (fun v hv=>absurd hv List.not_mem_nil) | (refine List.forall_mem_cons.2 ⟨?_,?_⟩; (focus (first | exact rfl | assumption))))); first | done | fail); exact rfl; exact rfl)); (focus (rintro _ _ ⟨_,rfl⟩ w hw; exact hw.sel Sel.nil)); rintro _ _ ⟨rfl,rfl⟩
      refine A5 ?_;exact BW (_,R,(.slice pB _ kB,σB),(.slice pH _ kH,σH)) ⟨hRn,hRm,hRl,hOB,hOH⟩ covZ selZ
    ·refine CF ?_; rintro _ _ ⟨b,rfl,rfl⟩
     refine BK ?_; rintro _ _ ⟨b,rfl,rfl⟩
     refine B7 (BJ rfl (concatBk_spec (sng _ _) [σ,χR] _ [_,_] [bs,R] (slE_sng encW_len) rfl (two_all hT.hb hOR.at) (show 2 ≤ 1000 by decide) (by simp only [totL,List.map_cons,List.map_nil,List.foldr_cons,List.foldr_nil]; omega)) rfl rfl rdZ rfl rfl ?_); rintro uB _ ⟨σB,hOB,rfl⟩; rw [flat2] at hOB; obtain ⟨pB,kB,rfl⟩:=hOB.form
     refine B7 (BJ rfl (concatHd_spec (sng _ _) [υ,χH] _ [_,_] [hs,holdsA cs l qs.length] (slE_sng encW_len) rfl (two_all hT.hh hHA) (show 2 ≤ 1000 by decide) (by simp only [totL,List.map_cons,List.map_nil,List.foldr_cons,List.foldr_nil]; omega)) rfl rfl rdZ rfl rfl ?_); rintro uH _ ⟨σH,hOH,rfl⟩; rw [flat2] at hOH; obtain ⟨pH,kH,rfl⟩:=hOH.form
     refine CR rfl (BO (out:=[.slice pq qs.length kq,.slice pc cs.length kc,.slice pB _ kB,.slice pH _ kH]) rfl rfl rfl rfl rfl) rfl rfl rfl rfl ?_
     refine B7 ?_; refine' DI rfl _ rfl rfl _ _; rotate_left; (focus (apply BS; exact rfl; exact rfl; exact takeZ; exact (by (repeat (first | exact (fun v hv=>absurd hv List.not_mem_nil) | (refine List.forall_mem_cons.2 ⟨?_,?_⟩; (focus (first | exact rfl | assumption))))); first | done | fail); exact rfl; exact rfl)); (focus (rintro _ _ ⟨_,rfl⟩ w hw; exact hw.sel Sel.nil)); rintro _ _ ⟨rfl,rfl⟩
     refine A5 ?_;exact BW (_,R,(.slice pB _ kB,σB),(.slice pH _ kH,σH)) ⟨hRn,hRm,hRl,hOB,hOH⟩ covZ selZ
   ·refine CF ?_; rintro _ _ ⟨b,rfl,rfl⟩
    refine B7 (BJ rfl (bookings_spec ω _ l hv (by omega) hok2 hnd) rfl rfl rdZ rfl rfl ?_); rintro uR _ ⟨χR,⟨R,hOR,hRl,hRn,hRm⟩,rfl⟩; obtain ⟨pR,kR,rfl⟩:=hOR.form
    refine BK ?_; rintro _ _ ⟨b,rfl,rfl⟩
    refine B7 (BJ rfl (concatBk_spec (sng _ _) [σ,χR] _ [_,_] [bs,R] (slE_sng encW_len) rfl (two_all hT.hb hOR.at) (show 2 ≤ 1000 by decide) (by simp only [totL,List.map_cons,List.map_nil,List.foldr_cons,List.foldr_nil]; omega)) rfl rfl rdZ rfl rfl ?_); rintro uB _ ⟨σB,hOB,rfl⟩; rw [flat2] at hOB; obtain ⟨pB,kB,rfl⟩:=hOB.form
    refine B7 (BJ rfl (concatHd_spec (sng _ _) [υ,χH] _ [_,_] [hs,holdsA cs l qs.length] (slE_sng encW_len) rfl (two_all hT.hh hHA) (show 2 ≤ 1000 by decide) (by simp only [totL,List.map_cons,List.map_nil,List.foldr_cons,List.foldr_nil]; omega)) rfl rfl rdZ rfl rfl ?_); rintro uH _ ⟨σH,hOH,rfl⟩; rw [flat2] at hOH; obtain ⟨pH,kH,rfl⟩:=hOH.form
    refine CR rfl (BO (out:=[.slice pq qs.length kq,.slice pc cs.length kc,.slice pB _ kB,.slice pH _ kH]) rfl rfl rfl rfl rfl) rfl rfl rfl rfl ?_
    refine B7 ?_; refine' DI rfl _ rfl rfl _ _; rotate_left; (focus (apply BS; exact rfl; exact rfl; exact takeZ; exact (by (repeat (first | exact (fun v hv=>absurd hv List.not_mem_nil) | (refine List.forall_mem_cons.2 ⟨?_,?_⟩; (focus (first | exact rfl | assumption))))); first | done | fail); exact rfl; exact rfl)); (focus (rintro _ _ ⟨_,rfl⟩ w hw; exact hw.sel Sel.nil)); rintro _ _ ⟨rfl,rfl⟩
    refine A5 ?_;exact BW (_,R,(.slice pB _ kB,σB),(.slice pH _ kH,σH)) ⟨hRn,hRm,hRl,hOB,hOH⟩ covZ selZ
  ·refine CF ?_; rintro _ _ ⟨b,rfl,rfl⟩
   refine C8 ?_ ?_
   ·refine BJ rfl (bookings_spec ω _ l hv (by omega) hok2 hnd) rfl rfl rdZ rfl rfl ?_; rintro uR _ ⟨χR,⟨R,hOR,hRl,hRn,hRm⟩,rfl⟩; obtain ⟨pR,kR,rfl⟩:=hOR.form
    refine C8 ?_ ?_
    ·refine BP ?_; rintro _ _ ⟨b,rfl,rfl⟩
     refine C8 ?_ ?_
     ·refine BJ rfl (concatBk_spec (sng _ _) [σ,χR] _ [_,_] [bs,R] (slE_sng encW_len) rfl (two_all hT.hb hOR.at) (show 2 ≤ 1000 by decide) (by simp only [totL,List.map_cons,List.map_nil,List.foldr_cons,List.foldr_nil]; omega)) rfl rfl rdZ rfl rfl ?_; rintro uB _ ⟨σB,hOB,rfl⟩; rw [flat2] at hOB; obtain ⟨pB,kB,rfl⟩:=hOB.form
      refine BK ?_; rintro _ _ ⟨b,rfl,rfl⟩
      refine B7 (BJ rfl (concatHd_spec (sng _ _) [υ,χH] _ [_,_] [hs,holdsA cs l qs.length] (slE_sng encW_len) rfl (two_all hT.hh hHA) (show 2 ≤ 1000 by decide) (by simp only [totL,List.map_cons,List.map_nil,List.foldr_cons,List.foldr_nil]; omega)) rfl rfl rdZ rfl rfl ?_); rintro uH _ ⟨σH,hOH,rfl⟩; rw [flat2] at hOH; obtain ⟨pH,kH,rfl⟩:=hOH.form
      refine CR rfl (BO (out:=[.slice pq qs.length kq,.slice pc cs.length kc,.slice pB _ kB,.slice pH _ kH]) rfl rfl rfl rfl rfl) rfl rfl rfl rfl ?_
      refine B7 ?_; refine' DI rfl _ rfl rfl _ _; rotate_left; (focus (apply BS; exact rfl; exact rfl; exact takeZ; exact (by (repeat (first | exact (fun v hv=>absurd hv List.not_mem_nil) | (refine List.forall_mem_cons.2 ⟨?_,?_⟩; (focus (first | exact rfl | assumption))))); first | done | fail); exact rfl; exact rfl)); (focus (rintro _ _ ⟨_,rfl⟩ w hw; exact hw.sel Sel.nil)); rintro _ _ ⟨rfl,rfl⟩
      refine A5 ?_;exact BW (_,R,(.slice pB _ kB,σB),(.slice pH _ kH,σH)) ⟨hRn,hRm,hRl,hOB,hOH⟩ covZ selZ
     ·refine BP ?_; rintro _ _ ⟨b,rfl,rfl⟩
      refine B7 (BJ rfl (concatBk_spec (sng _ _) [σ,χR] _ [_,_] [bs,R] (slE_sng encW_len) rfl (two_all hT.hb hOR.at) (show 2 ≤ 1000 by decide) (by simp only [totL,List.map_cons,List.map_nil,List.foldr_cons,List.foldr_nil]; omega)) rfl rfl rdZ rfl rfl ?_); rintro uB _ ⟨σB,hOB,rfl⟩; rw [flat2] at hOB; obtain ⟨pB,kB,rfl⟩:=hOB.form
      refine B7 (BJ rfl (concatHd_spec (sng _ _) [υ,χH] _ [_,_] [hs,holdsA cs l qs.length] (slE_sng encW_len) rfl (two_all hT.hh hHA) (show 2 ≤ 1000 by decide) (by simp only [totL,List.map_cons,List.map_nil,List.foldr_cons,List.foldr_nil]; omega)) rfl rfl rdZ rfl rfl ?_); rintro uH _ ⟨σH,hOH,rfl⟩; rw [flat2] at hOH; obtain ⟨pH,kH,rfl⟩:=hOH.form
      refine CR rfl (BO (out:=[.slice pq qs.length kq,.slice pc cs.length kc,.slice pB _ kB,.slice pH _ kH]) rfl rfl rfl rfl rfl) rfl rfl rfl rfl ?_
      refine B7 ?_; refine' DI rfl _ rfl rfl _ _; rotate_left; (focus (apply BS; exact rfl; exact rfl; exact takeZ; exact (by (repeat (first | exact (fun v hv=>absurd hv List.not_mem_nil) | (refine List.forall_mem_cons.2 ⟨?_,?_⟩; (focus (first | exact rfl | assumption))))); first | done | fail); exact rfl; exact rfl)); (focus (rintro _ _ ⟨_,rfl⟩ w hw; exact hw.sel Sel.nil)); rintro _ _ ⟨rfl,rfl⟩
      refine A5 ?_;exact BW (_,R,(.slice pB _ kB,σB),(.slice pH _ kH,σH)) ⟨hRn,hRm,hRl,hOB,hOH⟩ covZ selZ
    ·refine BP ?_; rintro _ _ ⟨b,rfl,rfl⟩
     refine BK ?_; rintro _ _ ⟨b,rfl,rfl⟩
     refine B7 (BJ rfl (concatBk_spec (sng _ _) [σ,χR] _ [_,_] [bs,R] (slE_sng encW_len) rfl (two_all hT.hb hOR.at) (show 2 ≤ 1000 by decide) (by simp only [totL,List.map_cons,List.map_nil,List.foldr_cons,List.foldr_nil]; omega)) rfl rfl rdZ rfl rfl ?_); rintro uB _ ⟨σB,hOB,rfl⟩; rw [flat2] at hOB; obtain ⟨pB,kB,rfl⟩:=hOB.form
     refine B7 (BJ rfl (concatHd_spec (sng _ _) [υ,χH] _ [_,_] [hs,holdsA cs l qs.length] (slE_sng encW_len) rfl (two_all hT.hh hHA) (show 2 ≤ 1000 by decide) (by simp only [totL,List.map_cons,List.map_nil,List.foldr_cons,List.foldr_nil]; omega)) rfl rfl rdZ rfl rfl ?_); rintro uH _ ⟨σH,hOH,rfl⟩; rw [flat2] at hOH; obtain ⟨pH,kH,rfl⟩:=hOH.form
     refine CR rfl (BO (out:=[.slice pq qs.length kq,.slice pc cs.length kc,.slice pB _ kB,.slice pH _ kH]) rfl rfl rfl rfl rfl) rfl rfl rfl rfl ?_
     refine B7 ?_; refine' DI rfl _ rfl rfl _ _; rotate_left; (focus (apply BS; exact rfl; exact rfl; exact takeZ; exact (by (repeat (first | exact (fun v hv=>absurd hv List.not_mem_nil) | (refine List.forall_mem_cons.2 ⟨?_,?_⟩; (focus (first | exact rfl | assumption))))); first | done | fail); exact rfl; exact rfl)); (focus (rintro _ _ ⟨_,rfl⟩ w hw; exact hw.sel Sel.nil)); rintro _ _ ⟨rfl,rfl⟩
     refine A5 ?_;exact BW (_,R,(.slice pB _ kB,σB),(.slice pH _ kH,σH)) ⟨hRn,hRm,hRl,hOB,hOH⟩ covZ selZ
   ·refine BP ?_; rintro _ _ ⟨b,rfl,rfl⟩
    refine B7 (BJ rfl (bookings_spec ω _ l hv (by omega) hok2 hnd) rfl rfl rdZ rfl rfl ?_); rintro uR _ ⟨χR,⟨R,hOR,hRl,hRn,hRm⟩,rfl⟩; obtain ⟨pR,kR,rfl⟩:=hOR.form
    refine BK ?_; rintro _ _ ⟨b,rfl,rfl⟩
    refine B7 (BJ rfl (concatBk_spec (sng _ _) [σ,χR] _ [_,_] [bs,R] (slE_sng encW_len) rfl (two_all hT.hb hOR.at) (show 2 ≤ 1000 by decide) (by simp only [totL,List.map_cons,List.map_nil,List.foldr_cons,List.foldr_nil]; omega)) rfl rfl rdZ rfl rfl ?_); rintro uB _ ⟨σB,hOB,rfl⟩; rw [flat2] at hOB; obtain ⟨pB,kB,rfl⟩:=hOB.form
    refine B7 (BJ rfl (concatHd_spec (sng _ _) [υ,χH] _ [_,_] [hs,holdsA cs l qs.length] (slE_sng encW_len) rfl (two_all hT.hh hHA) (show 2 ≤ 1000 by decide) (by simp only [totL,List.map_cons,List.map_nil,List.foldr_cons,List.foldr_nil]; omega)) rfl rfl rdZ rfl rfl ?_); rintro uH _ ⟨σH,hOH,rfl⟩; rw [flat2] at hOH; obtain ⟨pH,kH,rfl⟩:=hOH.form
    refine CR rfl (BO (out:=[.slice pq qs.length kq,.slice pc cs.length kc,.slice pB _ kB,.slice pH _ kH]) rfl rfl rfl rfl rfl) rfl rfl rfl rfl ?_
    refine B7 ?_; refine' DI rfl _ rfl rfl _ _; rotate_left; (focus (apply BS; exact rfl; exact rfl; exact takeZ; exact (by (repeat (first | exact (fun v hv=>absurd hv List.not_mem_nil) | (refine List.forall_mem_cons.2 ⟨?_,?_⟩; (focus (first | exact rfl | assumption))))); first | done | fail); exact rfl; exact rfl)); (focus (rintro _ _ ⟨_,rfl⟩ w hw; exact hw.sel Sel.nil)); rintro _ _ ⟨rfl,rfl⟩
    refine A5 ?_;exact BW (_,R,(.slice pB _ kB,σB),(.slice pH _ kH,σH)) ⟨hRn,hRm,hRl,hOB,hOH⟩ covZ selZ
 rintro ⟨b9,R,⟨uB,σB⟩,⟨uH,σH⟩⟩ ⟨hRn,hRm,hRl,hOB,hOH⟩
 dsimp only at hRn hRm hRl hOB hOH ⊢
 obtain ⟨pB,kB,rfl⟩:=hOB.form
 obtain ⟨pH,kH,rfl⟩:=hOH.form
 have lB:(bs ++ R).length = bs.length + R.length:=List.length_append
 have lH:(hs ++ holdsA cs l qs.length).length = hs.length + (holdsA cs l qs.length).length:=List.length_append
 by_cases hc:512 < (bs ++ R).length
 ·obtain ⟨R',bs1,hs1,hk,e1,e2⟩:=rsv_lens (qs:=qs) (hs:=hs) hB0 hE hRn hRm
  refine Ac8 ?_;refine AV ?_;refine CQ ?_;refine Aah ?_;refine Aa ?_;refine CH (BO (out:=[.slice none 0 0,.slice none 0 0,.slice none 0 0,.slice none 0 0]) rfl rfl rfl rfl rfl) rfl rfl rfl ?_;refine AU ?_; rintro _ _ ⟨rfl,rfl⟩;refine Aaa ?_
  exact AI (resSE (b1:=b4) (T:=29) (v1:=[.slice none 0 0,.slice none 0 0,.slice none 0 0,.slice none 0 0]) rfl rfl rfl rfl rfl (cells_own memZ)) rsubZ selZ (.inl ⟨4,by decide,rfl,rfl,.inr ⟨h0,.inr ⟨hE,.inr ⟨hA,R',bs1,hs1,hk,.inl ⟨by omega,rfl,rfl,rfl⟩⟩⟩⟩⟩)
 refine Ac8 ?_;refine Ad7 ?_;refine Aaj ?_;refine Aao ?_
 refine BC (sortB_spec σB _ (bs ++ R) hOB (by omega)) rfl rfl takesZ (fun τ hτ=>by simp at hτ) rfl rfl ?_
 rintro _ _ ⟨rfl,B1,σB',hpB,hwB,hOB1,rfl⟩
 have hB1l:=hpB.length_eq
 refine AE ?_;refine Aao ?_
 refine BC (sortH_spec σH _ (hs ++ holdsA cs l qs.length) hOH (by omega)) rfl rfl takesZ (fun τ hτ=>by simp at hτ) rfl rfl ?_
 rintro _ _ ⟨rfl,H1,σH',hpH,hwH,hOH1,rfl⟩
 have hH1l:=hpH.length_eq
 have hRO:RsvOK qs cs bs hs l R B1 H1:=⟨hRn,hRm,hpB,bks_strict hB0 hE hRn hRm hpB hwB,hpH,hds_sort hwH⟩
 rw [← hB1l] at hOB1;rw [← hH1l] at hOH1
 have hBA:SlE encB 4 σB' (.slice pB B1.length kB) B1:=hOB1.at
 have hHA1:HdAt σH' (.slice pH H1.length kH) H1:=hOH1.at
 rw [← hB1l,← hH1l];refine AT (ρ:=sng b9 (.cells #[.slice pq qs.length kq,.slice pc cs.length kc,.slice pB B1.length kB,.slice pH H1.length kH] 29 (0,0))) takeZ ?_
 have c9:=rdB b9 29 [.slice pq qs.length kq,.slice pc cs.length kc,.slice pB B1.length kB,.slice pH H1.length kH]
 have c90:=rdC c9 0
 have c91:=rdC c9 1
 have c92:=rdC c9 2
 have c93:=rdC c9 3
 have c9p:RdP (sng b9 (.cells #[.slice pq qs.length kq,.slice pc cs.length kc,.slice pB B1.length kB,.slice pH H1.length kH] 29 (0,0))) b9 0 [.slice pq qs.length kq,.slice pc cs.length kc]:=rdP_sng (xs:=[.slice pq qs.length kq,.slice pc cs.length kc,.slice pB B1.length kB,.slice pH H1.length kH]) rfl
 have hck:=check28_spec ρ τ σH' pq pc kq kc qs cs _ H1 hT.hq hT.hc hT.hcap hT.lq hT.lc hHA1 (by omega)
 refine Aal ?_;refine Aci ?_;refine AS ?_;refine Aac ?_;refine A3 hck rfl rfl rdZ rfl rfl ?_;rintro _ rfl
 by_cases hz:chkH qs cs H1 = 0
 rotate_left
 ·refine CK ?_
  refine Aah ?_;refine Aa ?_;refine CH (BO (out:=[.slice none 0 0,.slice none 0 0,.slice none 0 0,.slice none 0 0]) rfl rfl rfl rfl rfl) rfl rfl rfl ?_;refine AU ?_; rintro _ _ ⟨rfl,rfl⟩;refine Aaa ?_
  exact AI (resSE (b1:=b4) (T:=29) (v1:=[.slice none 0 0,.slice none 0 0,.slice none 0 0,.slice none 0 0]) rfl rfl rfl rfl rfl (cells_own memZ)) rsubZ selZ (.inl ⟨15,by decide,rfl,rfl,.inr ⟨h0,.inr ⟨hE,.inr ⟨hA,R,B1,H1,hRO,.inr ⟨⟨by omega,by omega⟩,.inl ⟨hz,rfl,rfl,rfl⟩⟩⟩⟩⟩⟩)
 rw [hz];refine Abb ?_;refine Abp ?_;refine AU ?_; rintro _ _ ⟨rfl,rfl⟩;refine Aaa ?_
 exact AI (resSE (b1:=b4) (T:=29) (v1:=[.slice pq qs.length kq,.slice pc cs.length kc,.slice pB B1.length kB,.slice pH H1.length kH]) rfl rfl rfl rfl rfl (cells_own memZ)) rsubZ selZ (.inr ⟨B1,H1,pB,kB,pH,kH,σB',σH',rfl,rfl,.inr ⟨h0,.inr ⟨hE,.inr ⟨hA,R,B1,H1,hRO,.inr ⟨⟨by omega,by omega⟩,.inr ⟨hz,rfl,rfl,rfl⟩⟩⟩⟩⟩,by omega,by omega,hBA,hHA1⟩)
end Go.Proofs.YtjehnjhkcmobcaaGreat
/- Shipments and stocks, of the reference. -/
namespace Go.Proofs.YtjehnjhkcmobcaaGreat
open Go.Eng Go.Step
set_option maxRecDepth 100000
set_option maxHeartbeats 4000000

theorem ship1_ok {cs:List Ct} {bs:List Bk} {d:Dm} {x:Sh} (h:ship1 cs bs d x = 0):∃ (nn:Nat) (c:Ct),x.c = nn ∧ cs[nn]? = some c ∧ ctOf cs x = c ∧ (d.r ≤ x.t ∧ c.s ≤ x.t ∧ x.t < c.e ∧ 1 ≤ x.n ∧ x.n ≤ c.r) ∧ x.t + 1 + c.g ≤ d.e ∧ arrOf cs x = x.t + 1 + c.g:=by
 unfold ship1 at h
 by_cases h1:x.c < 0 ∨ (cs.length:Int) ≤ x.c
 ·rw [if_pos h1] at h; omega
 rw [if_neg h1] at h
 have hlt:x.c.toNat < cs.length:=by omega
 rw [List.getElem?_eq_getElem hlt] at h
 dsimp only at h
 have hct:ctOf cs x = cs[x.c.toNat]:=by unfold ctOf; rw [List.getD_eq_getElem?_getD,List.getElem?_eq_getElem hlt]; rfl
 by_cases h2:x.t < d.r ∨ x.t < cs[x.c.toNat].s ∨ cs[x.c.toNat].e ≤ x.t ∨ x.n < 1 ∨ cs[x.c.toNat].r < x.n
 ·rw [if_pos h2] at h; omega
 rw [if_neg h2] at h
 by_cases h3:d.e < x.t + 1 + cs[x.c.toNat].g
 ·rw [if_pos h3] at h; omega
 exact ⟨x.c.toNat,cs[x.c.toNat],by omega,List.getElem?_eq_getElem hlt,hct,by omega,by omega,by unfold arrOf; rw [hct]⟩
end Go.Proofs.YtjehnjhkcmobcaaGreat
/- Stocks, of the reference. -/
namespace Go.Proofs.YtjehnjhkcmobcaaGreat
open Go.Eng Go.Step
set_option maxRecDepth 100000
set_option maxHeartbeats 4000000

end Go.Proofs.YtjehnjhkcmobcaaGreat
/- Flow, of the reference. -/
namespace Go.Proofs.YtjehnjhkcmobcaaGreat
open Go.Eng Go.Step
set_option maxRecDepth 100000
set_option maxHeartbeats 4000000

theorem valid_ok {qs:List Int} {cs:List Ct} {bs:List Bk} {hs:List Hd} {d:Dm} (h:validT qs cs bs hs d = true):(∀ c ∈ cs,chkCt c = 0 ∧ c.f < qs.length ∧ c.t < qs.length) ∧ bs.length ≤ 512 ∧ (∀ x ∈ hs,okHd qs.length x) ∧ hs.length ≤ 512 ∧ (1 ≤ qs.length ∧ qs.length ≤ 16) ∧ (∀ (j:Nat) (q:Int),qs[j]? = some q → 0 ≤ q ∧ q ≤ 1073741824) ∧ okDm qs.length d ∧ cs.length ≤ 64:=by
 obtain ⟨h1,h2⟩:=of_decide_eq_true h
 obtain ⟨p,b,hh⟩:=chkT_ok h1
 obtain ⟨k1,k2⟩:=chkPl_ct p
 obtain ⟨k3,k4⟩:=chkPl_quo p
 have k5:=chkB_ok b
 have k6:(∀ x ∈ hs,okHd qs.length x) ∧ hs.length ≤ 512:=by
  unfold chkH at hh
  rw [if_neg (by simpa using p)] at hh
  by_cases c1:512 < hs.length
  ·rw [if_pos c1] at hh; omega
  rw [if_neg c1] at hh
  by_cases c2:firstE (hdE qs.length hs) hs.length = 0
  ·have:=hdE_ok c2
   rw [List.take_length] at this
   exact ⟨this,by omega⟩
  ·rw [if_pos c2] at hh; exact absurd hh c2
 exact ⟨k2,k5.1,k6.1,k6.2,k3,k4,h2,k1⟩
end Go.Proofs.YtjehnjhkcmobcaaGreat
/- Nodes at times, numbered in a map. No program in sight. No conditions. -/
namespace Go.Step
open Go.Eng
def placesN (d:Dm) (n:Nat) (t:Int):List (Int × Int):=(rngI d.r t).map (fun u=>((n:Int),u))
def placesA (d:Dm):Nat → List (Int × Int)
  | 0=>[]
  | n + 1=>placesA d n ++ placesN d n (d.e + 1)
theorem placesN_len (d:Dm) (n:Nat) (t:Int):(placesN d n t).length = (t - d.r).toNat:=by unfold placesN; rw [List.length_map,rngI_len]
theorem placesA_len {d:Dm} (h:d.r ≤ d.e):∀ m:Nat,((placesA d m).length:Int) = m * wd d
  | 0=>by simp [placesA]
  | m + 1=>by
    have ih:=placesA_len h m
    unfold placesA;rw [List.length_append,placesN_len,Int.natCast_add,ih,Int.natCast_add,Int.add_mul];unfold wd;omega
theorem places_at {d:Dm} (h:d.r ≤ d.e) {k:Nat} {t:Int} (ht:d.r ≤ t):((placesA d k ++ placesN d k t).length:Int) = vtx d k t:=by
  rw [List.length_append,placesN_len,Int.natCast_add,placesA_len h];unfold vtx;omega
theorem placesN_snoc {d:Dm} {k:Nat} {t:Int} (ht:d.r ≤ t):placesN d k (t + 1) = placesN d k t ++ [((k:Int),t)]:=by
  unfold placesN;rw [rngI_snoc ht,List.map_append]
  rfl
theorem placesN_nil (d:Dm) (k:Nat):placesN d k d.r = []:=by
  unfold placesN;rw [rngI_nil (Int.le_refl _)]
  rfl
theorem placesA_get {d:Dm} (h:d.r ≤ d.e) {n:Nat} {t:Int} (h1:d.r ≤ t) (h2:t ≤ d.e):∀ {m:Nat},n < m → (placesA d m)[(vtx d n t).toNat]? = some ((n:Int),t)
  | 0,hm=>by omega
  | m + 1,hm=>by
    have hl:=placesA_len h m
    have hp:0 ≤ vtx d n t:=by
      unfold vtx
      have:=Int.mul_nonneg (show 0 ≤ (n:Int) by omega) (show 0 ≤ wd d by unfold wd; omega)
      omega
    unfold placesA
    by_cases hn:n < m
    · have hlt:=(vtx_lt (d:=d) (n:=n) (t:=t) (N:=m) (by omega) (by omega) h1 h2).2
      rw [List.getElem?_append_left (by omega)]
      exact placesA_get h h1 h2 hn
    · obtain rfl:n = m:=by omega
      have hv:vtx d n t = n * wd d + (t - d.r):=rfl
      rw [List.getElem?_append_right (by omega)]
      have e:(vtx d n t).toNat - (placesA d n).length = (t - d.r).toNat:=by omega
      rw [e];unfold placesN
      rw [List.getElem?_map,rngI_get (by omega)]
      simp only [Option.map_some,Option.some.injEq,Prod.mk.injEq,true_and];omega
theorem tickL_len (r e g:Int) (F:List (Int × Int)) {k:Nat} {x:Int × Int} (h:F[k]? = some x):(tickL r e g (F.take (k + 1))).length = (tickL r e g (F.take k)).length + (min x.2 (e - g) - max x.1 r).toNat:=by
  obtain ⟨hk,rfl⟩:=List.getElem?_eq_some_iff.1 h
  unfold tickL;rw [List.take_succ_eq_append_getElem hk,List.flatMap_append,List.length_append]
  congr 1
  simp [tickS,rngI_len]
theorem tickL_at (r e g:Int) (F:List (Int × Int)) {k:Nat} {x:Int × Int} (h:F[k]? = some x) {t:Int} (h1:max x.1 r ≤ t) (h2:t < min x.2 (e - g)):(tickL r e g F)[(tickL r e g (F.take k)).length + (t - max x.1 r).toNat]? = some t:=by
  obtain ⟨hk,rfl⟩:=List.getElem?_eq_some_iff.1 h
  have hF:tickL r e g F = tickL r e g (F.take k) ++ (tickS r e g F[k] ++ tickL r e g (F.drop (k + 1))):=by
    have h3:F = F.take k ++ F[k] :: F.drop (k + 1):=by rw [← List.drop_eq_getElem_cons hk,List.take_append_drop]
    conv=>lhs; rw [h3]
    unfold tickL;rw [List.flatMap_append,List.flatMap_cons]
  rw [hF,List.getElem?_append_right (by omega),Nat.add_sub_cancel_left,List.getElem?_append_left (by unfold tickS; rw [rngI_len]; omega)]
  unfold tickS
  rw [rngI_get (by omega)]
  congr 1
  omega
def NumAt (d:Dm) (k t:Int) (M:List (List Int × Value)):Prop:=(∀ e ∈ M,e.1.length = 2) ∧ ∀ n u:Int,mgetS [n,u] M = if (0 ≤ n ∧ d.r ≤ u ∧ u ≤ d.e) ∧ (n < k ∨ (n = k ∧ u < t)) then some (int (vtx d n u)) else none
theorem NumAt.nil (d:Dm):NumAt d 0 d.r []:=⟨by simp,fun n u=>by rw [if_neg (by omega)]; rfl⟩
theorem NumAt.row {d:Dm} {k t:Int} {M:List (List Int × Value)} (h:NumAt d k t M) (ht:d.e < t):NumAt d (k + 1) d.r M:=⟨h.1,fun n u=>by
  rw [h.2]
  by_cases c:(0 ≤ n ∧ d.r ≤ u ∧ u ≤ d.e) ∧ (n < k ∨ (n = k ∧ u < t))
  · rw [if_pos c,if_pos (by omega)]
  · rw [if_neg c,if_neg (by omega)]⟩
theorem NumAt.add {d:Dm} {k t:Int} {M:List (List Int × Value)} (h:NumAt d k t M) (hk:0 ≤ k) (h1:d.r ≤ t) (h2:t ≤ d.e):NumAt d k (t + 1) (msetS [k,t] (int (vtx d k t)) M):=⟨msetS_len rfl h.1,fun n u=>by
  rw [mgetS_mset]
  by_cases c:[n,u] = [k,t]
  · rw [if_pos c]
    simp only [List.cons.injEq,and_true] at c
    obtain ⟨rfl,rfl⟩:=c
    rw [if_pos (by omega)]
  · rw [if_neg c,h.2]
    have c2:¬ (n = k ∧ u = t):=fun h=>c (by rw [h.1,h.2])
    by_cases c3:(0 ≤ n ∧ d.r ≤ u ∧ u ≤ d.e) ∧ (n < k ∨ (n = k ∧ u < t))
    · rw [if_pos c3,if_pos (by omega)]
    · rw [if_neg c3,if_neg (by omega)]⟩
end Go.Step
/- Arrays of small values: their elements' places, two of them built. No conditions. -/
namespace Go.Eng
variable {C:Cx} {R H:List PH} {L:Env} {dst:Option Tmp} {ty:TypeId} {pos:String} {aft:Array Edge} {g:Option (Nat × Bool)}
theorem GO {x y:Operand} {t e:TypeId} {b o n i:Nat} {k:IntKind} (h:evalE L x = some (.pointer (some ⟨b,o,none⟩))) (h2:evalE L y = some (.int k (i:Int))) (ht:C.P.underlying t = some (.array n e)) (hs:szP C.P e = some 1) (hn:i < n) :
    Quiet C R H L ⟨dst,.indexAddr t x y,ty,pos,aft,g⟩ (.pointer (some ⟨b,o + i,none⟩)):=
  ⟨by intro c; simp,fun a w hx _=>by
    simp [execOp,hx x (by simp [Op.operands]) _ h,hx y (by simp [Op.operands]) _ h2,Instr.indexAt,Instr.sureAddr,asIntOf,run_underlying ht,hn,run_sizeOf hs,Addr.add_lit]⟩
theorem G8 {x y:Operand} {t e:TypeId} {b o n:Nat} {k:IntKind} (h:evalE L x = some (.pointer (some ⟨b,o,none⟩))) (h2:evalE L y = some (.int k 0)) (ht:C.P.underlying t = some (.array n e)) (hs:szP C.P e = some 1) (hn:0 < n) :
    Quiet C R H L ⟨dst,.indexAddr t x y,ty,pos,aft,g⟩ (.pointer (some ⟨b,o,none⟩)):=GO (i:=0) h h2 ht hs hn
theorem G9 {x y:Operand} {t e:TypeId} {b o n:Nat} {k:IntKind} (h:evalE L x = some (.pointer (some ⟨b,o,none⟩))) (h2:evalE L y = some (.int k 1)) (ht:C.P.underlying t = some (.array n e)) (hs:szP C.P e = some 1) (hn:1 < n) :
    Quiet C R H L ⟨dst,.indexAddr t x y,ty,pos,aft,g⟩ (.pointer (some ⟨b,o + 1,none⟩)):=GO (i:=1) h h2 ht hs hn
theorem DR {x y:Operand} {t e:TypeId} {z0 z1 v0 v1:Value} (h:evalE L x = some v0) (h2:evalE L y = some v1) (ht:C.P.underlying t = some (.array 2 e)) (hs:szP C.P e = some 1) (hz:zeroP C.P t = some (.agg #[z0,z1])) (o0:v0.oneCell' = true) (o1:v1.oneCell' = true) :
    Quiet C R H L ⟨dst,.build t #[(0,x),(1,y)],ty,pos,aft,g⟩ (.agg #[v0,v1]):=
  ⟨by intro c; simp,fun a w hx _=>by
    have c0:v0.cells = #[v0]:=by cases v0 <;> first | rfl | simp [Value.oneCell'] at o0
    have c1:v1.cells = #[v1]:=by cases v1 <;> first | rfl | simp [Value.oneCell'] at o1
    have cz:(Value.agg #[z0,z1]).cells = #[z0,z1]:=rfl
    simp [execOp,hx x (by simp [Op.operands]) _ h,hx y (by simp [Op.operands]) _ h2,Instr.build,run_zeroValue hz,run_underlying ht,run_sizeOf hs,cz,Instr.fill,c0,c1]⟩
end Go.Eng
/- Free spans of contacts. -/
namespace Go.Proofs.YtjehnjhkcmobcaaGreat
open Go.Eng Go.Step
set_option maxRecDepth 100000
set_option maxHeartbeats 4000000

theorem vok {qs:List Int} {cs:List Ct} {bs:List Bk} {hs:List Hd} {d:Dm} (h:validT qs cs bs hs d = true):VOk qs cs bs hs d:=by
 obtain ⟨hcs0,hbl,hok,hhl,hql,hquo,hdm,hcsl⟩:=valid_ok h
 obtain ⟨_,hb,hh⟩:=chkT_ok (of_decide_eq_true h).1
 exact ⟨fun c hc=>by
  have h1:=chkCt_all (hcs0 c hc).1
  have h2:=(hcs0 c hc).2
  exact ⟨⟨h1.1.1,by omega⟩,⟨h1.2.1.1,by omega⟩,h1.2.2.1,h1.2.2.2.1,h1.2.2.2.2⟩,hbl,(chkB_ok hb).2,hok,hhl,fit_of hh,hql,hquo,hdm,hcsl⟩
theorem vokB {qs:List Int} {cs:List Ct} {bs:List Bk} {hs:List Hd} {d:Dm} (h:validT qs cs bs hs d = true):chkB qs cs bs = 0:=(chkT_ok (of_decide_eq_true h).1).2.1
theorem bkCheck0_spec {ρ τ σ υ:PH} {pq pc pb ph:Option Addr} {kq kc kb kh:Nat} {qs:List Int} {cs:List Ct} {bs:List Bk} {hs:List Hd} (hT:TbAt ρ τ σ υ pq pc pb ph kq kc kb kh qs cs bs hs) (i:Nat) (h0:chkB qs cs bs = 0) (hi:i < cs.length) :
  Ans Tryz.prog (fv 209) [.agg #[.slice pq qs.length kq,.slice pc cs.length kc],.slice pb bs.length kb,int (i:Int)] [ρ,τ,σ] (fun r=>r = int 0):=by
 have hck:=bkCheck_spec ρ τ σ pq pc kq kc qs cs _ bs hT.hq hT.hc hT.hcap hT.lq hT.lc hT.hb hT.lb
 rw [h0] at hck
 refine spec_in (cap:=[]) Tryz.func209 rfl rfl Tryz.ntmps209 rfl envZ (fun N β=>?_)
 refine Aa ?_;refine BH (BM rfl) rfl rfl rfl ?_;rintro _ _ ⟨b3,rfl,rfl⟩;refine AT (ρ:=sng b3 _) takeZ ?_
 have c:=rdB b3 25 [.slice pq qs.length kq,.slice pc cs.length kc]
 have c0:=rdC c 0
 have c1:=rdC c 1
 refine Abi ?_;refine Abp ?_;refine AB ?_;refine A3 hck rfl rfl rdZ rfl rfl ?_;rintro _ rfl;refine Abb ?_;refine Aai ?_;refine A0 ?_;refine AB ?_;refine Aag ?_;refine AV ?_;refine BL ?_;refine Abh ?_;refine Aak ?_;exact AI (res1 rfl rfl) rsubZ selZ ⟨rfl,rfl⟩
theorem freeAdd_spec (bA bO:Nat) (a to:Int) (u:Value) (G:List (Int × Int)) (χ:PH) (hO:OwnS 152 2 u G.length (G.flatMap encS) χ) (hl:G.length ≤ 100000) :
  Eng.Spec Tryz.prog (.func (.func 226) #[] #[.pointer (some ⟨bA,0,none⟩),.pointer (some ⟨bO,0,none⟩)]) [int to] [] [sng bA (.cells #[int a] 3 (0,0)),sng bO (.cells #[u] 148 (0,0)),χ] (fun r H'=>r = .tuple #[] ∧ ∃ u' χ',H' = [sng bA (.cells #[int a] 3 (0,0)),sng bO (.cells #[u'] 148 (0,0)),χ'] ∧ OwnS 152 2 u' (G ++ if a < to then [(a,to)] else []).length ((G ++ if a < to then [(a,to)] else []).flatMap encS) χ'):=by
 have hone:∀ z n (xs:List Value) (χ:PH),OwnS 152 2 z n xs χ → z.oneCell' = true:=fun z n xs χ h=>by obtain ⟨_,_,rfl⟩:=h.form; rfl
 have hu:=hone _ _ _ _ hO
 refine spec_in (cap:=[.pointer (some ⟨bA,0,none⟩),.pointer (some ⟨bO,0,none⟩)]) Tryz.func226 rfl rfl Tryz.ntmps226 rfl envZ (fun N β=>?_)
 by_cases h:a < to
 ·rw [if_pos h]
  refine Adi ?_;refine BB ?_;refine Aah ?_;refine AA ?_;refine AF ?_;refine Ach ?_;refine BR ?_;refine BD ?_; rintro _ _ ⟨b,rfl,rfl⟩
  refine BH (B8 (by_:=16) (s:=2) (news:=[int a,int to]) rfl rfl rfl rfl rfl rfl rfl hO takeZ (cells_own memZ) rfl (by (repeat (first | exact (fun v hv=>absurd hv List.not_mem_nil) | (refine List.forall_mem_cons.2 ⟨?_,?_⟩; (focus (first | exact rfl | assumption))))); first | done | fail) (by omega) (by simp only [maxLen]; omega) (by omega)) rfl rfl rfl ?_
  rintro u1 _ ⟨χ1,hO1,rfl⟩
  have hu2:=hone _ _ _ _ hO1
  refine BF ?_; rintro _ _ ⟨rfl,rfl⟩;refine AE ?_;refine CO (res0 rfl) rsubZ selZ ⟨rfl,u1,χ1,rfl,?_⟩;rw [List.length_append,List.flatMap_append];exact hO1
 ·rw [if_neg h,List.append_nil]
  refine Adi ?_;refine Aeh ?_;exact CO (res0 rfl) rsubZ selZ ⟨rfl,u,χ,rfl,hO⟩
theorem gapsP_at {e:Int} {l:List (Int × Int)} {k:Nat} (h:k < l.length) (a:Int):gapsP e a (l.drop k) = (if a < l[k].1 then [(a,l[k].1)] else []) ++ gapsP e l[k].2 (l.drop (k + 1)):=by
 rw [List.drop_eq_getElem_cons h]
 rfl
set_option maxHeartbeats 32000000 in
theorem bkFree0_spec {ρ τ σ υ:PH} {pq pc pb ph:Option Addr} {kq kc kb kh:Nat} {qs:List Int} {cs:List Ct} {bs:List Bk} {hs:List Hd} (hT:TbAt ρ τ σ υ pq pc pb ph kq kc kb kh qs cs bs hs) (i:Nat) (x:Ct) (hx:cs[i]? = some x) (hb:firstE (bkE cs bs) bs.length = 0) (hbl:bs.length ≤ 512) :
  Makes Tryz.prog (fv 210) [.agg #[.slice pq qs.length kq,.slice pc cs.length kc],.slice pb bs.length kb,int (i:Int),int x.s] [ρ,τ,σ] (fun r χ=>OwnS 152 2 r (freeC cs bs i).length ((freeC cs bs i).flatMap encS) χ):=by
 have hbusy:=busy_spec σ _ bs i hT.hb (by omega)
 have hbi:=busy_in hb hx
 have hbp:=busy_apart hb i
 have hbll:=busyL_len bs i
 have hfc:freeC cs bs i = gapsP x.e x.s (busyL bs i):=by unfold freeC; rw [hx]
 have hgl:=gapsP_len x.e (busyL bs i) x.s
 have hone:∀ z n (xs:List Value) (χ:PH),OwnS 152 2 z n xs χ → z.oneCell' = true:=fun z n xs χ h=>by obtain ⟨_,_,rfl⟩:=h.form; rfl
 rw [hfc]
 have hi:=(List.getElem?_eq_some_iff.1 hx).1
 obtain ⟨bq,oq,e4,hrd⟩:=ctRow hT.rc hx
 refine spec_in (cap:=[]) Tryz.func210 rfl rfl Tryz.ntmps210 rfl envZ (fun N β=>?_)
 refine Aa ?_;refine BH (BM rfl) rfl rfl rfl ?_;rintro _ _ ⟨b3,rfl,rfl⟩;refine AT (ρ:=sng b3 _) takeZ ?_
 have c:=rdB b3 25 [.slice pq qs.length kq,.slice pc cs.length kc]
 have c0:=rdC c 0
 have c1:=rdC c 1
 refine BY ?_;subst e4;refine Abu ?_;refine AB ?_;refine Abc ?_;refine AY ?_; rintro _ _ ⟨b,rfl,rfl⟩;refine AU ?_; rintro _ _ ⟨rfl,rfl⟩;refine AE ?_;refine Aa ?_;refine B6 ?_; rintro _ _ ⟨b,rfl,rfl⟩;refine AE ?_;refine Ad0 ?_;refine FI ?_;refine B6 ?_; rintro _ _ ⟨b,rfl,rfl⟩;refine BF ?_; rintro _ _ ⟨rfl,rfl⟩;refine AE ?_;refine Aa ?_;refine CA ?_;refine Aaa ?_;refine Ad ?_
 revert b; intro bA
 revert b; intro bO
 revert b; intro bC
 rw [show max x.s x.s = x.s by omega]
 refine AT (ρ:=sng bC _) takeZ ?_
 have g2:rdc (sng bC (.cells #[int x.f,int x.t,int x.s,int x.e,int x.r,int x.g,int x.l] 114 (0,0))) bC 3 = some (int x.e):=by rw [rdc_sng]; rfl
 refine CB hbusy rfl rfl rdZ rfl rfl ?_;rintro w χb hOb
 have hSb:=hOb.at
 obtain ⟨pw,kw,rfl⟩:=hOb.form
 obtain ⟨_,_,ew,hrw⟩:=SlE.val (enc:=encS) encS_len (show SlE encS 2 χb _ (busyL bs i) from hSb)
 simp only [Value.slice.injEq] at ew
 obtain ⟨rfl,_,rfl⟩:=ew
 refine AT (ρ:=χb) takeZ ?_
 generalize busyL bs i = L at hbi hbp hbll hOb hSb hrw hgl
 refine Ada ?_
 refine BA [2,12,27,28,9,10,11] (X:=Nat × Int × List (Int × Int) × Value × PH) (0,x.s,[],.slice none 0 0,emp) (fun z=>z.1 ≤ L.length ∧ (∀ y ∈ L.drop z.1,z.2.1 ≤ y.1) ∧ gapsP x.e x.s L = z.2.2.1 ++ gapsP x.e z.2.1 (L.drop z.1) ∧ OwnS 152 2 z.2.2.2.1 z.2.2.1.length (z.2.2.1.flatMap encS) z.2.2.2.2) (fun z=>[(29,int z.1)]) (fun z=>[sng bA (.cells #[int z.2.1] 3 (0,0)),sng bO (.cells #[z.2.2.2.1] 148 (0,0)),z.2.2.2.2]) (fun z=>L.length - z.1) pickZ ⟨by dsimp only; omega,fun y hy=>by rw [List.drop_zero] at hy; exact (hbi y hy).1,rfl,OwnS.nil _ _⟩ covZ selZ ?_
 rintro ⟨k,a,G,u,χ⟩ ⟨hk,ha,hG,hO⟩
 dsimp only at hk ha hG hO ⊢
 have hGl:G.length ≤ L.length + 1:=by
  have:=congrArg List.length hG
  rw [List.length_append] at this;omega
 by_cases hlt:k < L.length
 ·have hy:=List.getElem?_eq_getElem hlt
  have hga:=gapsP_at (e:=x.e) hlt a
  have hmem:=List.getElem_mem hlt
  have hin:=hbi _ hmem
  have hak:=ha L[k] (by rw [List.drop_eq_getElem_cons hlt]; exact List.mem_cons_self)
  have hpk:∀ y ∈ L.drop (k + 1),L[k].2 ≤ y.1:=fun y hy=>by
   have h1:=List.Pairwise.sublist (List.drop_sublist k L) hbp
   rw [List.drop_eq_getElem_cons hlt] at h1;exact (List.pairwise_cons.1 h1).1 y hy
  obtain ⟨b6,o6,rfl,hRd6,y0,y1⟩:=spRow hrw hy
  generalize L[k] = y at hy hga hin hak hpk hRd6 y0 y1
  have hadd:=freeAdd_spec bA bO a y.1 u G χ hO (by omega)
  refine Ab1 ?_;refine AY ?_; rintro _ _ ⟨b,rfl,rfl⟩;refine AU ?_; rintro _ _ ⟨rfl,rfl⟩;refine Adh ?_;refine Aac ?_
  revert b; intro b14
  refine BC hadd rfl rfl takesZ rdZ rfl rfl ?_;rintro _ _ ⟨rfl,u',χ',rfl,hO'⟩
  have hmx:max a y.2 = y.2:=by omega
  refine Adt ?_;refine AF ?_;refine Aac ?_;refine FI ?_
  focus ((rw [hmx]))
  refine BF ?_; rintro _ _ ⟨rfl,rfl⟩;refine Adj ?_
  refine AX (k + 1,y.2,G ++ (if a < y.1 then [(a,y.1)] else []),u',χ') ⟨by dsimp only; omega,hpk,?_,hO'⟩ (by dsimp only; omega) covZ selZ
  dsimp only
  rw [hG,hga,List.append_assoc]
 ·have hke:k = L.length:=by omega
  subst hke
  have hadd:=freeAdd_spec bA bO a x.e u G χ hO (by omega)
  have hfin:gapsP x.e x.s L = G ++ (if a < x.e then [(a,x.e)] else []):=by
   rw [hG,List.drop_length]
   rfl
  rw [hfin];refine Abl ?_;refine Aad ?_;refine Aac ?_;refine BC hadd rfl rfl takesZ rdZ rfl rfl ?_;rintro _ _ ⟨rfl,u',χ',rfl,hO'⟩;refine AE ?_;refine Abk ?_;refine Aaa ?_;exact AI (res1 rfl rfl) rsubZ selZ ⟨χ',hO',rfl⟩
theorem bkFree_spec {ρ τ σ υ:PH} {pq pc pb ph:Option Addr} {kq kc kb kh:Nat} {qs:List Int} {cs:List Ct} {bs:List Bk} {hs:List Hd} (hT:TbAt ρ τ σ υ pq pc pb ph kq kc kb kh qs cs bs hs) (i:Nat) (x:Ct) (hx:cs[i]? = some x) (h0:chkB qs cs bs = 0) :
  Makes Tryz.prog (fv 179) [.agg #[.slice pq qs.length kq,.slice pc cs.length kc],.slice pb bs.length kb,int (i:Int)] [ρ,τ,σ] (fun r χ=>∃ u,r = .tuple #[u,int 0] ∧ OwnS 152 2 u (freeC cs bs i).length ((freeC cs bs i).flatMap encS) χ):=by
 obtain ⟨hbl,hb⟩:=chkB_ok h0
 have hck:=bkCheck0_spec hT i h0 (List.getElem?_eq_some_iff.1 hx).1
 have hfr:=bkFree0_spec hT i x hx hb hbl
 have hi:=(List.getElem?_eq_some_iff.1 hx).1
 obtain ⟨bq,oq,e4,hrd⟩:=ctRow hT.rc hx
 have g2:rdc τ bq (oq + i * 7 + 2) = some (int x.s):=hrd.get (j:=2) rfl
 refine spec_in (cap:=[]) Tryz.func179 rfl rfl Tryz.ntmps179 rfl envZ (fun N β=>?_)
 refine Aa ?_;refine BH (BM rfl) rfl rfl rfl ?_;rintro _ _ ⟨b3,rfl,rfl⟩;refine AT (ρ:=sng b3 _) takeZ ?_
 have c:=rdB b3 25 [.slice pq qs.length kq,.slice pc cs.length kc]
 have c0:=rdC c 0
 have c1:=rdC c 1
 subst e4;refine Aan ?_;refine AC ?_;refine Abp ?_;refine Aa1 ?_;refine A3 hck rfl rfl rdZ rfl rfl ?_;rintro _ rfl;refine Ad4 ?_;refine AC ?_
 refine A8 (.q 0 (.q 1 (.q 2 (.q 3 (.q 4 (.q 5 (.q 6 (.q 7 (.q 8 (.l 9 .e (.q 10 (.q 11 .nil)))))))))))) [] rfl (by kernel_rfl) Sel.nil ?_
 refine BQ ?_;refine Aa7 ?_;refine Aar ?_;refine AQ ?_;refine BI ?_;refine Ab8 ?_;refine B7 (BJ rfl hfr rfl rfl rdZ rfl rfl ?_);rintro u _ ⟨χ,hO,rfl⟩;refine BT ?_;refine Adm ?_
 skip
 exact AI (res2 rfl rfl rfl) rsubZ selZ ⟨χ,⟨u,rfl,hO⟩,rfl⟩
end Go.Proofs.YtjehnjhkcmobcaaGreat
/- The network made. -/
namespace Go.Proofs.YtjehnjhkcmobcaaGreat
open Go.Eng Go.Step
set_option maxRecDepth 100000
set_option maxHeartbeats 4000000

theorem exValid_spec {ρ τ σ υ:PH} {pq pc pb ph:Option Addr} {kq kc kb kh:Nat} {qs:List Int} {cs:List Ct} {bs:List Bk} {hs:List Hd} (hT:TbAt ρ τ σ υ pq pc pb ph kq kc kb kh qs cs bs hs) (d:Dm) :
  Ans Tryz.prog (fv 127) [.agg #[.slice pq qs.length kq,.slice pc cs.length kc,.slice pb bs.length kb,.slice ph hs.length kh],.agg #[int d.s,int d.d,int d.v,int d.r,int d.e]] [ρ,τ,σ,υ] (fun r=>r = .bool (validT qs cs bs hs d)):=by
 refine spec_in (cap:=[]) Tryz.func127 rfl rfl Tryz.ntmps127 rfl envZ (fun N β=>?_)
 refine Aa ?_;refine BH (BM rfl) rfl rfl rfl ?_;rintro _ _ ⟨b1,rfl,rfl⟩;refine AT (ρ:=sng b1 _) takeZ ?_
 have ct:=rdB b1 29 [.slice pq qs.length kq,.slice pc cs.length kc,.slice pb bs.length kb,.slice ph hs.length kh]
 have ct0:=rdC ct 0
 have ct1:=rdC ct 1
 have ct2:=rdC ct 2
 have ct3:=rdC ct 3
 have ctp:RdP (sng b1 (.cells #[.slice pq qs.length kq,.slice pc cs.length kc,.slice pb bs.length kb,.slice ph hs.length kh] 29 (0,0))) b1 0 [.slice pq qs.length kq,.slice pc cs.length kc]:=rdP_sng (xs:=[.slice pq qs.length kq,.slice pc cs.length kc,.slice pb bs.length kb,.slice ph hs.length kh]) rfl
 refine BH (BM rfl) rfl rfl rfl ?_;rintro _ _ ⟨b2,rfl,rfl⟩;refine AT (ρ:=sng b2 _) takeZ ?_
 have cd:=rdB b2 31 [int d.s,int d.d,int d.v,int d.r,int d.e]
 have cd0:=rdC cd 0
 have cd1:=rdC cd 1
 have cd2:=rdC cd 2
 have cd3:=rdC cd 3
 have cd4:=rdC cd 4
 refine Aaa ?_;refine Aci ?_;refine Ac ?_;refine Abi ?_;refine Abp ?_;refine A3 (chkTab_spec hT) rfl rfl rdZ rfl rfl ?_;rintro _ rfl
 by_cases h0:chkT qs cs bs hs = 0
 rotate_left
 ·have hv:validT qs cs bs hs d = false:=decide_eq_false (fun h=>h0 h.1)
  rw [hv]
  generalize chkT qs cs bs hs = z at h0
  refine CK ?_;refine Abw ?_;refine Ac2 ?_;refine Abw ?_;refine Ac2 ?_;refine Ae0 ?_;exact AI (res1 rfl rfl) rsubZ selZ ⟨rfl,rfl⟩
 rw [h0]
 have hbad:¬ okDm qs.length d → validT qs cs bs hs d = false:=fun h=>decide_eq_false (fun k=>h k.2)
 by_cases hs1:0 ≤ d.s
 rotate_left
 ·rw [hbad (fun h=>by unfold okDm at h; omega)]
  refine Ad3 ?_;refine BB ?_;refine AJ ?_;refine Ac2 ?_;refine Abw ?_;refine Ac2 ?_;refine Ae0 ?_;exact AI (res1 rfl rfl) rsubZ selZ ⟨rfl,rfl⟩
 by_cases hs2:d.s < (qs.length:Int)
 rotate_left
 ·rw [hbad (fun h=>by unfold okDm at h; omega)]
  refine Ad3 ?_;refine Abq ?_;refine AB ?_;refine CL ?_;refine AJ ?_;refine Abw ?_;refine Ac2 ?_;refine Ae0 ?_;exact AI (res1 rfl rfl) rsubZ selZ ⟨rfl,rfl⟩
 by_cases hd1:0 ≤ d.d
 rotate_left
 ·rw [hbad (fun h=>by unfold okDm at h; omega)]
  refine Aed ?_;refine BB ?_;refine AJ ?_;refine Ac2 ?_;refine Ae0 ?_;exact AI (res1 rfl rfl) rsubZ selZ ⟨rfl,rfl⟩
 by_cases hd2:d.d < (qs.length:Int)
 rotate_left
 ·rw [hbad (fun h=>by unfold okDm at h; omega)]
  refine Aed ?_;refine Abq ?_;refine AB ?_;refine CL ?_;refine AJ ?_;refine Ae0 ?_;exact AI (res1 rfl rfl) rsubZ selZ ⟨rfl,rfl⟩
 by_cases h3:d.s ≠ d.d
 rotate_left
 ·rw [hbad (fun h=>by unfold okDm at h; omega)]
  refine Aed ?_;refine Ac1 ?_;refine CT ?_;refine Adu ?_;exact AI (res1 rfl rfl) rsubZ selZ ⟨rfl,rfl⟩
 by_cases h4:1 ≤ d.v
 rotate_left
 ·rw [hbad (fun h=>by unfold okDm at h; omega)]
  refine Aed ?_;refine Adl ?_;refine Acz ?_;refine BL ?_;refine Aeb ?_;refine Aeb ?_;refine Abz ?_;refine AJ ?_;refine Aeb ?_;refine Ae1 ?_;exact AI (res1 rfl rfl) rsubZ selZ ⟨rfl,rfl⟩
 by_cases h5:d.v ≤ 1099511627776
 rotate_left
 ·rw [hbad (fun h=>by unfold okDm at h; omega)]
  refine Aed ?_;refine Adl ?_;refine Aei ?_;refine Aag ?_;refine CZ ?_;refine AN ?_;refine Aeb ?_;refine Abz ?_;refine AJ ?_;refine Aeb ?_;refine Ae1 ?_;exact AI (res1 rfl rfl) rsubZ selZ ⟨rfl,rfl⟩
 by_cases h6:0 ≤ d.r
 rotate_left
 ·rw [hbad (fun h=>by unfold okDm at h; omega)]
  refine Aed ?_;refine Adl ?_;refine Aei ?_;refine Aag ?_;refine CU ?_;refine Ac4 ?_;refine BL ?_;refine AN ?_;refine Abz ?_;refine AJ ?_;refine Aeb ?_;refine Ae1 ?_;exact AI (res1 rfl rfl) rsubZ selZ ⟨rfl,rfl⟩
 by_cases h7:d.r < d.e
 rotate_left
 ·rw [hbad (fun h=>by unfold okDm at h; omega)]
  refine Aed ?_;refine Adl ?_;refine Aei ?_;refine Aag ?_;refine CU ?_;refine Ac4 ?_;refine CL ?_;refine Acw ?_;refine A0 ?_;refine AN ?_;refine Aeb ?_;refine Ae1 ?_;exact AI (res1 rfl rfl) rsubZ selZ ⟨rfl,rfl⟩
 by_cases h8:d.e ≤ 1099511627776
 rotate_left
 ·rw [hbad (fun h=>by unfold okDm at h; omega)]
  refine Aed ?_;refine Adl ?_;refine Aei ?_;refine Aag ?_;refine CU ?_;refine Ac4 ?_;refine CL ?_;refine Acw ?_;refine BB ?_;refine Ac4 ?_;refine CZ ?_;refine AN ?_;refine Ae1 ?_;exact AI (res1 rfl rfl) rsubZ selZ ⟨rfl,rfl⟩
 by_cases h9:d.e - d.r ≤ 100
 rotate_left
 ·rw [hbad (fun h=>by unfold okDm at h; omega)]
  refine Aed ?_;refine Adl ?_;refine Aei ?_;refine Aag ?_;refine CU ?_;refine Ac4 ?_;refine CL ?_;refine Acw ?_;refine BB ?_;refine Ac4 ?_;refine CU ?_;refine Acw ?_;refine CN ?_;refine CZ ?_;refine Ab2 ?_;exact AI (res1 rfl rfl) rsubZ selZ ⟨rfl,rfl⟩
 have hv:validT qs cs bs hs d = true:=decide_eq_true ⟨h0,by unfold okDm; omega⟩
 rw [hv];refine Aed ?_;refine Adl ?_;refine Aei ?_;refine Aag ?_;refine CU ?_;refine Ac4 ?_;refine CL ?_;refine Acw ?_;refine BB ?_;refine Ac4 ?_;refine CU ?_;refine Acw ?_;refine CN ?_;refine CU ?_;refine Ab2 ?_;exact AI (res1 rfl rfl) rsubZ selZ ⟨rfl,rfl⟩
set_option maxHeartbeats 32000000 in
theorem build_spec {ρ τ σ υ:PH} {pq pc pb ph:Option Addr} {kq kc kb kh:Nat} {qs:List Int} {cs:List Ct} {bs:List Bk} {hs:List Hd} (hT:TbAt ρ τ σ υ pq pc pb ph kq kc kb kh qs cs bs hs) (d:Dm) :
  Eng.Spec Tryz.prog (fv 67) [.agg #[.slice pq qs.length kq,.slice pc cs.length kc,.slice pb bs.length kb,.slice ph hs.length kh],.agg #[int d.s,int d.d,int d.v,int d.r,int d.e]] [ρ,τ,σ,υ] [] (fun r H'=>(validT qs cs bs hs d = false ∧ r = .tuple #[.pointer none,.bool false] ∧ H' = []) ∨ (validT qs cs bs hs d = true ∧ ∃ bw bm u χ M,r = .tuple #[.pointer (some ⟨bw,0,none⟩),.bool true] ∧ H' = [sng bw (.cells #[.slice pq qs.length kq,.slice pc cs.length kc,.slice pb bs.length kb,.slice ph hs.length kh,int d.s,int d.d,int d.v,int d.r,int d.e,u,.map (some bm)] 147 (0,0)),sng bm (mapS M),χ] ∧ OwnS 143 2 u (placesA d qs.length).length ((placesA d qs.length).flatMap encS) χ ∧ NumAt d qs.length d.r M)):=by
 have hval:=exValid_spec hT d
 have hone:∀ z n (xs:List Value) (χ:PH),OwnS 143 2 z n xs χ → z.oneCell' = true:=fun z n xs χ h=>by obtain ⟨_,_,rfl⟩:=h.form; rfl
 refine spec_in (cap:=[]) Tryz.func67 rfl rfl Tryz.ntmps67 rfl envZ (fun N β=>?_)
 refine Aa ?_;refine BH (BM rfl) rfl rfl rfl ?_;rintro _ _ ⟨b1,rfl,rfl⟩;refine AT (ρ:=sng b1 _) takeZ ?_
 have ct:=rdB b1 29 [.slice pq qs.length kq,.slice pc cs.length kc,.slice pb bs.length kb,.slice ph hs.length kh]
 have ct0:=rdC ct 0
 have ct1:=rdC ct 1
 have ct2:=rdC ct 2
 have ct3:=rdC ct 3
 have ctp:RdP (sng b1 (.cells #[.slice pq qs.length kq,.slice pc cs.length kc,.slice pb bs.length kb,.slice ph hs.length kh] 29 (0,0))) b1 0 [.slice pq qs.length kq,.slice pc cs.length kc]:=rdP_sng (xs:=[.slice pq qs.length kq,.slice pc cs.length kc,.slice pb bs.length kb,.slice ph hs.length kh]) rfl
 refine BH (BM rfl) rfl rfl rfl ?_;rintro _ _ ⟨b2,rfl,rfl⟩;refine AT (ρ:=sng b2 _) takeZ ?_
 have cd:=rdB b2 31 [int d.s,int d.d,int d.v,int d.r,int d.e]
 have cd0:=rdC cd 0
 have cd1:=rdC cd 1
 have cd2:=rdC cd 2
 have cd3:=rdC cd 3
 have cd4:=rdC cd 4
 refine Aan ?_;refine AC ?_;refine Ace ?_;refine A3 hval rfl rfl rdZ rfl rfl ?_;rintro _ rfl
 cases hv:validT qs cs bs hs d with
 | false =>
  refine Ad1 ?_;refine Acj ?_;exact AI (res2 rfl rfl rfl) rsubZ selZ (.inl ⟨rfl,rfl,rfl⟩)
 | true =>
 have h:=vok hv
 have hdm:=h.dm
 unfold okDm at hdm
 have hnq:=h.nq
 refine BY ?_;refine Acb ?_;refine Ace ?_
 focus ((refine' BH _ rfl rfl rfl _; rotate_left; (exact DV); rintro _ _ ⟨b,rfl,rfl⟩))
 revert b; intro bm
 refine CH (BO (out:=[.slice pq qs.length kq,.slice pc cs.length kc,.slice pb bs.length kb,.slice ph hs.length kh,int d.s,int d.d,int d.v,int d.r,int d.e,.slice none 0 0,.map (some bm)]) rfl rfl rfl rfl rfl) rfl rfl rfl ?_;refine CD ?_; rintro _ _ ⟨b,rfl,rfl⟩;refine Abi ?_;refine Aci ?_;refine Ac ?_;refine Abd ?_
 revert b; intro bw
 refine BA [2,3,6,22] (X:=Nat × Value × PH × List (List Int × Value)) (0,.slice none 0 0,emp,[]) (fun x=>x.1 ≤ qs.length ∧ OwnS 143 2 x.2.1 (placesA d x.1).length ((placesA d x.1).flatMap encS) x.2.2.1 ∧ NumAt d x.1 d.r x.2.2.2) (fun x=>[(23,int x.1)]) (fun x=>[sng bw (.cells #[.slice pq qs.length kq,.slice pc cs.length kc,.slice pb bs.length kb,.slice ph hs.length kh,int d.s,int d.d,int d.v,int d.r,int d.e,x.2.1,.map (some bm)] 147 (0,0)),sng bm (mapS x.2.2.2),x.2.2.1]) (fun x=>qs.length - x.1) pickZ ⟨by dsimp only; omega,OwnS.nil _ _,NumAt.nil d⟩ covZ selZ ?_
 rintro ⟨k,u,χ,M⟩ ⟨hk,hO,hM⟩
 dsimp only at hk hO hM ⊢
 by_cases hlt:k < qs.length
 rotate_left
 ·have hke:k = qs.length:=by omega
  subst hke;refine Abl ?_;refine Adf ?_;exact AI (res2 rfl rfl rfl) rsubZ selZ (.inr ⟨rfl,bw,bm,u,χ,M,rfl,rfl,hO,hM⟩)
 refine Aa3 ?_;refine Abs ?_;refine Aao ?_;refine Aaa ?_;refine AO ?_
 refine BA [2,3,6,7,22,23] (X:=Int × Value × PH × List (List Int × Value)) (d.r,u,χ,M) (fun x=>d.r ≤ x.1 ∧ x.1 ≤ d.e + 1 ∧ OwnS 143 2 x.2.1 (placesA d k ++ placesN d k x.1).length ((placesA d k ++ placesN d k x.1).flatMap encS) x.2.2.1 ∧ NumAt d k x.1 x.2.2.2) (fun x=>[(8,int x.1)]) (fun x=>[sng bw (.cells #[.slice pq qs.length kq,.slice pc cs.length kc,.slice pb bs.length kb,.slice ph hs.length kh,int d.s,int d.d,int d.v,int d.r,int d.e,x.2.1,.map (some bm)] 147 (0,0)),sng bm (mapS x.2.2.2),x.2.2.1]) (fun x=>(d.e + 1 - x.1).toNat) pickZ ⟨by dsimp only; omega,by dsimp only; omega,by dsimp only; rw [placesN_nil,List.append_nil]; exact hO,hM⟩ covZ selZ ?_
 rintro ⟨t,u2,χ2,M2⟩ ⟨ht1,ht2,hO2,hM2⟩
 dsimp only at ht1 ht2 hO2 hM2 ⊢
 by_cases hte:t ≤ d.e
 rotate_left
 ·have hte2:t = d.e + 1:=by omega
  subst hte2;refine Aai ?_;refine Aac ?_;refine CZ ?_;refine Ac3 ?_;refine Aa0 ?_
  exact AX (k + 1,u2,χ2,M2) ⟨by dsimp only; omega,hO2,by dsimp only; exact hM2.row (by omega)⟩ (by dsimp only; omega) covZ selZ
 have hlen:=places_at (d:=d) (by omega) (k:=k) ht1
 have hvt:=vtx_lt (d:=d) (n:=k) (t:=t) (N:=16) (by omega) (by omega) ht1 hte
 have hvb:vtx d k t < 1616:=by
  have hw:=h.wd
  have:=Int.mul_le_mul_of_nonneg_left hw.2 (show (0:Int) ≤ ((16:Nat):Int) by omega)
  omega
 have hsn:=placesN_snoc (k:=k) ht1
 have hadd:=hM2.add (by omega) ht1 hte
 have hMl:=hM2.1
 obtain ⟨pu,ku,rfl⟩:=hO2.form
 have hflat:(placesA d k ++ placesN d k (t + 1)) = (placesA d k ++ placesN d k t) ++ [((k:Int),t)]:=by rw [hsn,List.append_assoc]
 generalize placesA d k ++ placesN d k t = P at hlen hO2 hflat
 refine Aai ?_;refine Aac ?_;refine CU ?_;refine Acm ?_;refine Abn ?_;refine BR ?_;refine AY ?_; rintro _ _ ⟨b,rfl,rfl⟩;refine AU ?_; rintro _ _ ⟨rfl,rfl⟩;refine Aal ?_
 revert b; intro b9
 refine A8 (.q 0 (.q 1 (.q 2 (.q 3 (.q 4 (.q 5 (.q 6 (.q 7 (.q 8 (.q 9 (.l 10 .b .nil))))))))))) [] rfl (by kernel_rfl) Sel.nil ?_
 refine Ack ?_;refine BQ ?_;refine Ack ?_;refine EW ?_;rw [hlen];refine B7 ?_
 refine' DI rfl (DG 2 [(k:Int),t] (v:=int (vtx d k t)) (l:=M2) rfl rfl rfl rfl ⟨by kernel_rfl,by kernel_rfl⟩ rfl hMl takeZ) rfl rfl _ _
 ·rintro _ _ ⟨_,rfl⟩ w hw; exact hw.sel Sel.nil
 rintro _ _ ⟨rfl,rfl⟩;refine A5 ?_
 skip
 refine A8 (.p 0 (.q 1 (.q 2 (.q 3 (.q 4 (.q 5 (.l 6 .e (.l 7 .b (.q 8 (.q 9 (.l 10 .b .nil))))))))))) [] rfl (by kernel_rfl) Sel.nil ?_
 refine FV ?_;refine Ack ?_;refine BQ ?_;refine BK ?_; rintro _ _ ⟨b,rfl,rfl⟩
 refine B7 (a_b rfl (B8 (by_:=16) (s:=2) (news:=[int (k:Int),int t]) rfl rfl rfl rfl rfl rfl rfl hO2 takeZ (cells_own memZ) rfl (by (repeat (first | exact (fun v hv=>absurd hv List.not_mem_nil) | (refine List.forall_mem_cons.2 ⟨?_,?_⟩; (focus (first | exact rfl | assumption))))); first | done | fail) (by omega) (by simp only [maxLen]; omega) (by omega)) rfl rfl rfl (fun _ _ _ w hw=>hw.sel Sel.nil) ?_)
 rintro u3 _ ⟨χ3,hO3,rfl⟩
 have hu3:=hone _ _ _ _ hO3
 refine Adn ?_;refine DQ ?_; rintro _ _ ⟨rfl,rfl⟩;refine A5 ?_;refine Aca ?_;refine CG ?_;refine Aaa ?_
 refine AX (t + 1,u3,χ3,_) ⟨by dsimp only; omega,by dsimp only; omega,?_,hadd⟩ (by dsimp only; omega) covZ selZ
 dsimp only
 rw [hflat,List.length_append,List.flatMap_append];exact hO3
end Go.Proofs.YtjehnjhkcmobcaaGreat
/- Inside a region that draws its order: the chunks in another order. No conditions. -/
namespace Go.Eng
variable {C:Cx} {D:List Deferred} {R H Hf:List PH} {L:Env} {K:List It} {ps ls:List Nat}
theorem Quiet.perm {H':List PH} {o:Oper} {v:Value} (hp:H'.Perm H) (h:Quiet C R H L o v):Quiet C R H' L o v:=⟨h.1,fun a w hx hs=>h.2 a w hx (hs.perm hp)⟩
theorem EM {H':List PH} {all:Array Oper} {done:List Nat} {plan:Pl} (hp:H.Perm H') (h:DJ C D R Hf H' L all done ps ls plan K):DJ C D R Hf H L all done ps ls plan K:=by
  refine ⟨fun hpl fuel listed a w hinv=>h.run hpl fuel listed a w ⟨hinv.size,hinv.dc,hinv.sub,hinv.fuel,hinv.tm,hinv.df,hinv.sat.perm hp,hinv.get,fun i hi hn=>?_,fun w hw=>hinv.hf w (hw.perm hp.symm),hinv.lds,hinv.data,hinv.uniq,hinv.chron⟩⟩
  obtain ⟨o,d,v,h1,h2,h3,h4,h5⟩:=hinv.prom i hi hn
  refine ⟨o,d,v,h1,h2,h3,h4,?_⟩
  rcases h5 with ⟨k1,k2⟩ | k
  · refine .inl ⟨k1,?_⟩
    split at k2
    · rename_i c; rw [if_pos c]; exact k2
    · rename_i c; rw [if_neg c]; exact k2.perm hp.symm
  · exact .inr k
end Go.Eng
/- Room, and the ticks of contacts. -/
namespace Go.Proofs.YtjehnjhkcmobcaaGreat
open Go.Eng Go.Step
set_option maxRecDepth 100000
set_option maxHeartbeats 4000000

set_option maxHeartbeats 16000000 in
theorem exRoom_spec {ρ τ σ υ:PH} {pq pc pb ph:Option Addr} {kq kc kb kh:Nat} {qs:List Int} {cs:List Ct} {bs:List Bk} {hs:List Hd} (hT:TbAt ρ τ σ υ pq pc pb ph kq kc kb kh qs cs bs hs) (bw bm:Nat) (u:Value) (d:Dm) (h:VOk qs cs bs hs d) (nn:Nat) (t:Int) (hnl:nn < qs.length) :
  Ans Tryz.prog (fv 132) [.pointer (some ⟨bw,0,none⟩),.agg #[int (nn:Int),int t]] [sng bw (.cells #[.slice pq qs.length kq,.slice pc cs.length kc,.slice pb bs.length kb,.slice ph hs.length kh,int d.s,int d.d,int d.v,int d.r,int d.e,u,.map (some bm)] 147 (0,0)),ρ,τ,σ,υ] (fun r=>r = int (roomT qs hs d nn t)):=by
 have hr:=hT.rh
 have hQ:=List.getElem?_eq_getElem hnl
 have hQb:=h.quo _ _ hQ
 have hok:=h.hd
 have hl:=h.nh
 have hR:roomT qs hs d nn t = if (nn:Int) = d.s ∨ (nn:Int) = d.d then 1099511627776 else qs[nn] - Step.stored hs nn t:=by
  unfold roomT;rw [Int.toNat_natCast,List.getD_eq_getElem?_getD,hQ,Option.getD_some]
 rw [hR]
 generalize qs[nn] = Q at hQ hQb
 have w0:rdc (sng bw (.cells #[.slice pq qs.length kq,.slice pc cs.length kc,.slice pb bs.length kb,.slice ph hs.length kh,int d.s,int d.d,int d.v,int d.r,int d.e,u,.map (some bm)] 147 (0,0))) bw 0 = some (.slice pq qs.length kq):=by rw [rdc_sng]; rfl
 have w1:rdc (sng bw (.cells #[.slice pq qs.length kq,.slice pc cs.length kc,.slice pb bs.length kb,.slice ph hs.length kh,int d.s,int d.d,int d.v,int d.r,int d.e,u,.map (some bm)] 147 (0,0))) bw 1 = some (.slice pc cs.length kc):=by rw [rdc_sng]; rfl
 have w2:rdc (sng bw (.cells #[.slice pq qs.length kq,.slice pc cs.length kc,.slice pb bs.length kb,.slice ph hs.length kh,int d.s,int d.d,int d.v,int d.r,int d.e,u,.map (some bm)] 147 (0,0))) bw 2 = some (.slice pb bs.length kb):=by rw [rdc_sng]; rfl
 have w3:rdc (sng bw (.cells #[.slice pq qs.length kq,.slice pc cs.length kc,.slice pb bs.length kb,.slice ph hs.length kh,int d.s,int d.d,int d.v,int d.r,int d.e,u,.map (some bm)] 147 (0,0))) bw 3 = some (.slice ph hs.length kh):=by rw [rdc_sng]; rfl
 have w4:rdc (sng bw (.cells #[.slice pq qs.length kq,.slice pc cs.length kc,.slice pb bs.length kb,.slice ph hs.length kh,int d.s,int d.d,int d.v,int d.r,int d.e,u,.map (some bm)] 147 (0,0))) bw 4 = some (int d.s):=by rw [rdc_sng]; rfl
 have w5:rdc (sng bw (.cells #[.slice pq qs.length kq,.slice pc cs.length kc,.slice pb bs.length kb,.slice ph hs.length kh,int d.s,int d.d,int d.v,int d.r,int d.e,u,.map (some bm)] 147 (0,0))) bw 5 = some (int d.d):=by rw [rdc_sng]; rfl
 have w6:rdc (sng bw (.cells #[.slice pq qs.length kq,.slice pc cs.length kc,.slice pb bs.length kb,.slice ph hs.length kh,int d.s,int d.d,int d.v,int d.r,int d.e,u,.map (some bm)] 147 (0,0))) bw 6 = some (int d.v):=by rw [rdc_sng]; rfl
 have w7:rdc (sng bw (.cells #[.slice pq qs.length kq,.slice pc cs.length kc,.slice pb bs.length kb,.slice ph hs.length kh,int d.s,int d.d,int d.v,int d.r,int d.e,u,.map (some bm)] 147 (0,0))) bw 7 = some (int d.r):=by rw [rdc_sng]; rfl
 have w8:rdc (sng bw (.cells #[.slice pq qs.length kq,.slice pc cs.length kc,.slice pb bs.length kb,.slice ph hs.length kh,int d.s,int d.d,int d.v,int d.r,int d.e,u,.map (some bm)] 147 (0,0))) bw 8 = some (int d.e):=by rw [rdc_sng]; rfl
 have w9:rdc (sng bw (.cells #[.slice pq qs.length kq,.slice pc cs.length kc,.slice pb bs.length kb,.slice ph hs.length kh,int d.s,int d.d,int d.v,int d.r,int d.e,u,.map (some bm)] 147 (0,0))) bw 9 = some (u):=by rw [rdc_sng]; rfl
 have w10:rdc (sng bw (.cells #[.slice pq qs.length kq,.slice pc cs.length kc,.slice pb bs.length kb,.slice ph hs.length kh,int d.s,int d.d,int d.v,int d.r,int d.e,u,.map (some bm)] 147 (0,0))) bw 10 = some (.map (some bm)):=by rw [rdc_sng]; rfl
 refine spec_in (cap:=[]) Tryz.func132 rfl rfl Tryz.ntmps132 rfl envZ (fun N β=>?_)
 refine Aa ?_;refine BH (BM rfl) rfl rfl rfl ?_;rintro _ _ ⟨b3,rfl,rfl⟩;refine AT (ρ:=sng b3 _) takeZ ?_
 have cp:=rdB b3 143 [int (nn:Int),int t]
 have cp0:=rdC cp 0
 have cp1:=rdC cp 1
 by_cases s1:(nn:Int) = d.s
 ·rw [if_pos (.inl s1)]
  refine Abi ?_;refine AC ?_
  refine A8 (.q 0 (.q 1 (.q 2 (.q 3 (.q 4 (.q 5 (.q 6 (.q 7 (.q 8 (.q 9 (.q 10 (.q 11 (.q 12 (.q 13 (.q 14 (.q 15 (.q 16 (.q 17 .nil)))))))))))))))))) [] rfl (by kernel_rfl) Sel.nil ?_
  refine Aar ?_;refine AQ ?_;refine Adn ?_;refine Acl ?_;refine D9 ?_;refine Adq ?_;refine BV ?_;refine Add ?_;exact AI (res1 rfl rfl) rsubZ selZ ⟨rfl,rfl⟩
 by_cases s2:(nn:Int) = d.d
 ·rw [if_pos (.inr s2)]
  refine Abi ?_;refine AC ?_
  refine A8 (.q 0 (.q 1 (.q 2 (.q 3 (.q 4 (.q 5 (.q 6 (.q 7 (.q 8 (.q 9 (.q 10 (.q 11 (.q 12 (.q 13 (.q 14 (.q 15 (.q 16 (.q 17 .nil)))))))))))))))))) [] rfl (by kernel_rfl) Sel.nil ?_
  refine Aar ?_;refine AQ ?_;refine Adn ?_;refine Acl ?_;refine DD ?_;refine Acx ?_;refine AQ ?_;refine Adn ?_;refine Ab8 ?_;refine D9 ?_;refine BZ ?_;refine Add ?_;exact AI (res1 rfl rfl) rsubZ selZ ⟨rfl,rfl⟩
 rw [if_neg (by omega)]
 obtain ⟨bq,oq,rfl,gq⟩:=hT.rq.int hQ
 refine Abi ?_;refine AC ?_
 refine A8 (.q 0 (.q 1 (.q 2 (.q 3 (.q 4 (.q 5 (.q 6 (.q 7 (.q 8 (.q 9 (.q 10 (.q 11 (.q 12 (.q 13 (.q 14 (.q 15 (.q 16 (.q 17 .nil)))))))))))))))))) [] rfl (by kernel_rfl) Sel.nil ?_
 refine Aar ?_;refine AQ ?_;refine Adn ?_;refine Acl ?_;refine DD ?_;refine Acx ?_;refine AQ ?_;refine Adn ?_;refine Ab8 ?_;refine DD ?_;refine BZ ?_;refine Aes ?_
 refine A8 (.q 0 (.q 1 (.q 2 (.q 3 (.q 4 (.q 5 (.q 6 (.q 7 (.q 8 (.q 9 (.q 10 .nil))))))))))) [] rfl (by kernel_rfl) Sel.nil ?_
 refine AQ ?_;refine Adn ?_;refine AW ?_;refine Acn ?_;refine C9 ?_;refine AR ?_;refine Adm ?_;refine Aai ?_;refine BX ?_;refine AG ?_;refine Ac ?_;refine Abd ?_
 refine BA [0,3,40,41] (0:Nat) (fun k=>k ≤ hs.length) (fun k=>[(42,int k),(5,int (Q - Step.stored (hs.take k) nn t))]) (fun _=>[]) (fun k=>hs.length - k) pickZ (by omega) ?_ selZ ?_
 ·rw [List.take_zero]
  simp only [Step.stored,Int.sub_zero];exact covZ
 intro k hk
 by_cases hlt:k < hs.length
 ·have hx:=List.getElem?_eq_getElem hlt
  have hh:=(hok _ (List.getElem_mem hlt)).2.2.1
  obtain ⟨b7,o7,rfl,hrd,g0,g1,g2,g3,_⟩:=hdRow5 hr hx
  have hm:=stored_snoc nn t hs[k] (hs.take k)
  rw [← List.take_succ_eq_append_getElem hlt] at hm
  have hb:=stored_bd (n:=nn) (t:=t) (l:=hs.take k) (fun h hm=>hok h (List.mem_of_mem_take hm))
  rw [List.length_take,Nat.min_eq_left hk] at hb
  generalize hs[k] = x at hrd g0 g1 g2 g3 hm hh
  generalize Step.stored (hs.take k) nn t = s at hm hb
  by_cases c1:x.n = nn
  ·by_cases c2:x.a ≤ t
   ·by_cases c3:t < x.b
    ·rw [if_pos ⟨c1,c2,c3⟩] at hm
     refine Ab1 ?_;refine AY ?_; rintro _ _ ⟨b,rfl,rfl⟩;refine AU ?_; rintro _ _ ⟨rfl,rfl⟩;refine AE ?_;refine Aao ?_;refine Aac ?_;refine CT ?_;refine Aa5 ?_;refine CU ?_;refine Acw ?_;refine BB ?_;refine AN ?_;refine Aah ?_;refine AA ?_;refine Aag ?_;refine CN ?_;refine Adp ?_
     refine AX (k + 1) (by omega) (by omega) ?_ selZ
     rw [hm,show Q - (s + x.s) = Q - s - x.s by omega]
     exact covZ
    ·rw [if_neg (by omega),Int.add_zero] at hm
     refine Ab1 ?_;refine AY ?_; rintro _ _ ⟨b,rfl,rfl⟩;refine AU ?_; rintro _ _ ⟨rfl,rfl⟩;refine AE ?_;refine Aao ?_;refine Aac ?_;refine CT ?_;refine Aa5 ?_;refine CU ?_;refine Acw ?_;refine A0 ?_;refine AN ?_;refine Ac5 ?_
     refine AX (k + 1) (by omega) (by omega) ?_ selZ
     rw [hm];exact covZ
   ·rw [if_neg (by omega),Int.add_zero] at hm
    refine Ab1 ?_;refine AY ?_; rintro _ _ ⟨b,rfl,rfl⟩;refine AU ?_; rintro _ _ ⟨rfl,rfl⟩;refine AE ?_;refine Aao ?_;refine Aac ?_;refine CT ?_;refine Aa5 ?_;refine CZ ?_;refine AN ?_;refine Abz ?_;refine Abh ?_;refine Aa0 ?_
    refine AX (k + 1) (by omega) (by omega) ?_ selZ
    rw [hm];exact covZ
  ·rw [if_neg (by omega),Int.add_zero] at hm
   refine Ab1 ?_;refine AY ?_; rintro _ _ ⟨b,rfl,rfl⟩;refine AU ?_; rintro _ _ ⟨rfl,rfl⟩;refine AE ?_;refine Aao ?_;refine Aac ?_;refine CI ?_;refine Abz ?_;refine AJ ?_;refine Abz ?_;refine Abh ?_;refine Aa0 ?_
   refine AX (k + 1) (by omega) (by omega) ?_ selZ
   rw [hm];exact covZ
 ·have hke:k = hs.length:=by omega
  subst hke;rw [List.take_length];refine Ael ?_;exact AI (res1 rfl rfl) rsubZ selZ ⟨rfl,rfl⟩
theorem ticks_spec (bw:Nat) (i:Nat) :
  Eng.Spec Tryz.prog (fv 133) [.pointer (some ⟨bw,0,none⟩),int (i:Int)] [] [] (fun r H'=>∃ c1 c2,r = .func (.func 178) #[] #[.pointer (some ⟨c1,0,none⟩),.pointer (some ⟨c2,0,none⟩)] ∧ H' = [sng c2 (.cells #[int (i:Int)] 3 (0,0)),sng c1 (.cells #[.pointer (some ⟨bw,0,none⟩)] 137 (0,0))]):=by
 refine spec_in (cap:=[]) Tryz.func133 rfl rfl Tryz.ntmps133 rfl envZ (fun N β=>?_)
 refine Aa ?_;refine BH (DC rfl rfl) rfl rfl rfl ?_;rintro _ _ ⟨c1,rfl,rfl⟩;refine BH (DC rfl rfl) rfl rfl rfl ?_;rintro _ _ ⟨c2,rfl,rfl⟩;refine Aaa ?_;refine Aa ?_;refine CA ?_;refine Aaa ?_;exact AI (res1 rfl rfl) rsubZ selZ ⟨c1,c2,rfl,rfl⟩
set_option maxHeartbeats 32000000 in
theorem ticks_iter {ρ τ σ υ:PH} {pq pc pb ph:Option Addr} {kq kc kb kh:Nat} {qs:List Int} {cs:List Ct} {bs:List Bk} {hs:List Hd} (hT:TbAt ρ τ σ υ pq pc pb ph kq kc kb kh qs cs bs hs) (bw bm c1 c2:Nat) (u:Value) (d:Dm) (h:VOk qs cs bs hs d) (h0:chkB qs cs bs = 0) (i:Nat) (x:Ct) (hx:cs[i]? = some x) :
  Iter Tryz.prog (.func (.func 178) #[] #[.pointer (some ⟨c1,0,none⟩),.pointer (some ⟨c2,0,none⟩)]) [sng c1 (.cells #[.pointer (some ⟨bw,0,none⟩)] 137 (0,0)),sng c2 (.cells #[int (i:Int)] 3 (0,0)),sng bw (.cells #[.slice pq qs.length kq,.slice pc cs.length kc,.slice pb bs.length kb,.slice ph hs.length kh,int d.s,int d.d,int d.v,int d.r,int d.e,u,.map (some bm)] 147 (0,0)),ρ,τ,σ,υ] ((tickL d.r d.e x.g (freeC cs bs i)).map Eng.encI):=by
 intro y S Own Inv Stop Ry hy hyl σ0 hI0
 obtain ⟨yl,rfl⟩:=hyl
 have hi:=(List.getElem?_eq_some_iff.1 hx).1
 have hdm:=h.dm
 unfold okDm at hdm
 have hct:=h.ct x (List.mem_of_getElem? hx)
 have hfree:=bkFree_spec hT i x hx h0
 have hfl:(freeC cs bs i).length ≤ 600:=by
  have hf:freeC cs bs i = gapsP x.e x.s (busyL bs i):=by unfold freeC; rw [hx]
  have h1:=gapsP_len x.e (busyL bs i) x.s
  have h2:=busyL_len bs i
  have h3:=h.nb
  rw [hf];omega
 have hfin:=(h.free hx).2.1
 obtain ⟨bq,oq,e4,hrd⟩:=ctRow hT.rc hx
 have w0:rdc (sng bw (.cells #[.slice pq qs.length kq,.slice pc cs.length kc,.slice pb bs.length kb,.slice ph hs.length kh,int d.s,int d.d,int d.v,int d.r,int d.e,u,.map (some bm)] 147 (0,0))) bw 0 = some (.slice pq qs.length kq):=by rw [rdc_sng]; rfl
 have w1:rdc (sng bw (.cells #[.slice pq qs.length kq,.slice pc cs.length kc,.slice pb bs.length kb,.slice ph hs.length kh,int d.s,int d.d,int d.v,int d.r,int d.e,u,.map (some bm)] 147 (0,0))) bw 1 = some (.slice pc cs.length kc):=by rw [rdc_sng]; rfl
 have w2:rdc (sng bw (.cells #[.slice pq qs.length kq,.slice pc cs.length kc,.slice pb bs.length kb,.slice ph hs.length kh,int d.s,int d.d,int d.v,int d.r,int d.e,u,.map (some bm)] 147 (0,0))) bw 2 = some (.slice pb bs.length kb):=by rw [rdc_sng]; rfl
 have w3:rdc (sng bw (.cells #[.slice pq qs.length kq,.slice pc cs.length kc,.slice pb bs.length kb,.slice ph hs.length kh,int d.s,int d.d,int d.v,int d.r,int d.e,u,.map (some bm)] 147 (0,0))) bw 3 = some (.slice ph hs.length kh):=by rw [rdc_sng]; rfl
 have w4:rdc (sng bw (.cells #[.slice pq qs.length kq,.slice pc cs.length kc,.slice pb bs.length kb,.slice ph hs.length kh,int d.s,int d.d,int d.v,int d.r,int d.e,u,.map (some bm)] 147 (0,0))) bw 4 = some (int d.s):=by rw [rdc_sng]; rfl
 have w5:rdc (sng bw (.cells #[.slice pq qs.length kq,.slice pc cs.length kc,.slice pb bs.length kb,.slice ph hs.length kh,int d.s,int d.d,int d.v,int d.r,int d.e,u,.map (some bm)] 147 (0,0))) bw 5 = some (int d.d):=by rw [rdc_sng]; rfl
 have w6:rdc (sng bw (.cells #[.slice pq qs.length kq,.slice pc cs.length kc,.slice pb bs.length kb,.slice ph hs.length kh,int d.s,int d.d,int d.v,int d.r,int d.e,u,.map (some bm)] 147 (0,0))) bw 6 = some (int d.v):=by rw [rdc_sng]; rfl
 have w7:rdc (sng bw (.cells #[.slice pq qs.length kq,.slice pc cs.length kc,.slice pb bs.length kb,.slice ph hs.length kh,int d.s,int d.d,int d.v,int d.r,int d.e,u,.map (some bm)] 147 (0,0))) bw 7 = some (int d.r):=by rw [rdc_sng]; rfl
 have w8:rdc (sng bw (.cells #[.slice pq qs.length kq,.slice pc cs.length kc,.slice pb bs.length kb,.slice ph hs.length kh,int d.s,int d.d,int d.v,int d.r,int d.e,u,.map (some bm)] 147 (0,0))) bw 8 = some (int d.e):=by rw [rdc_sng]; rfl
 have w9:rdc (sng bw (.cells #[.slice pq qs.length kq,.slice pc cs.length kc,.slice pb bs.length kb,.slice ph hs.length kh,int d.s,int d.d,int d.v,int d.r,int d.e,u,.map (some bm)] 147 (0,0))) bw 9 = some (u):=by rw [rdc_sng]; rfl
 have w10:rdc (sng bw (.cells #[.slice pq qs.length kq,.slice pc cs.length kc,.slice pb bs.length kb,.slice ph hs.length kh,int d.s,int d.d,int d.v,int d.r,int d.e,u,.map (some bm)] 147 (0,0))) bw 10 = some (.map (some bm)):=by rw [rdc_sng]; rfl
 have wp:RdP (sng bw (.cells #[.slice pq qs.length kq,.slice pc cs.length kc,.slice pb bs.length kb,.slice ph hs.length kh,int d.s,int d.d,int d.v,int d.r,int d.e,u,.map (some bm)] 147 (0,0))) bw 0 [.slice pq qs.length kq,.slice pc cs.length kc]:=rdP_sng (xs:=[.slice pq qs.length kq,.slice pc cs.length kc,.slice pb bs.length kb,.slice ph hs.length kh,int d.s,int d.d,int d.v,int d.r,int d.e,u,.map (some bm)]) rfl
 have v1:rdc (sng c1 (.cells #[.pointer (some ⟨bw,0,none⟩)] 137 (0,0))) c1 0 = some (.pointer (some ⟨bw,0,none⟩)):=by rw [rdc_sng]; rfl
 have v2:rdc (sng c2 (.cells #[int (i:Int)] 3 (0,0))) c2 0 = some (int (i:Int)):=by rw [rdc_sng]; rfl
 subst e4;simp only [List.cons_append,List.nil_append]
 refine spec_in (cap:=[.pointer (some ⟨c1,0,none⟩),.pointer (some ⟨c2,0,none⟩)]) Tryz.func178 rfl rfl Tryz.ntmps178 rfl envZ (fun N β=>?_)
 refine AC ?_
 refine A8 (.q 0 (.q 1 (.q 2 (.q 3 (.q 4 (.q 5 (.q 6 (.q 7 (.q 8 (.l 9 .e (.l 10 .b .nil))))))))))) [] rfl (by kernel_rfl) Sel.nil ?_
 refine AR ?_;refine Adn ?_;refine AW ?_;refine Aar ?_;refine AR ?_;refine BI ?_;refine BQ ?_;refine C1 ?_; rintro _ _ ⟨b,rfl,rfl⟩
 focus ((refine B7 ?_; refine' DI rfl _ rfl rfl _ _; rotate_left; (focus (apply BS; exact rfl; exact rfl; exact takeZ; exact (by (repeat (first | exact (fun v hv=>absurd hv List.not_mem_nil) | (refine List.forall_mem_cons.2 ⟨?_,?_⟩; (focus (first | exact rfl | assumption))))); first | done | fail); exact rfl; exact rfl)); (focus (rintro _ _ ⟨_,rfl⟩ w hw; exact hw.sel Sel.nil)); rintro _ _ ⟨rfl,rfl⟩))
 refine A5 ?_
 revert b; intro b4
 refine AC ?_;refine AT (ρ:=sng b4 _) takeZ ?_
 have g5:rdc (sng b4 (.cells #[int x.f,int x.t,int x.s,int x.e,int x.r,int x.g,int x.l] 114 (0,0))) b4 5 = some (int x.g):=by rw [rdc_sng]; rfl
 refine A8 (.q 0 (.q 1 (.q 2 (.q 3 (.q 4 (.q 5 (.q 6 (.q 7 (.q 8 (.q 9 (.q 10 (.l 11 .e (.q 12 (.q 13 (.q 14 (.q 15 (.q 16 .nil))))))))))))))))) [] rfl (by kernel_rfl) Sel.nil ?_
 refine AR ?_;refine Adn ?_;refine AW ?_;refine BQ ?_;refine AR ?_;refine Adn ?_;refine Aar ?_;refine AR ?_;refine B7 (BJ rfl hfree rfl rfl rdZ rfl rfl ?_);rintro _ _ ⟨χ,⟨uf,rfl,hO⟩,rfl⟩
 have hSf:=hO.at
 obtain ⟨pf,kf,rfl⟩:=hO.form
 obtain ⟨_,_,ef,hrf⟩:=SlE.val (enc:=encS) encS_len (show SlE encS 2 χ _ (freeC cs bs i) from hSf)
 simp only [Value.slice.injEq] at ef
 obtain ⟨rfl,_,rfl⟩:=ef
 refine AQ ?_;refine DA ?_;refine DA ?_;refine BT ?_;refine Adm ?_;refine Aad ?_;refine Ada ?_;refine AT (ρ:=χ) takeZ ?_
 generalize freeC cs bs i = F at hy hfl hfin hrf hO hSf
 refine BA [0,1,2,4,34,35] (X:=Nat × S) (0,σ0) (fun z=>z.1 ≤ F.length ∧ Inv (tickL d.r d.e x.g (F.take z.1)).length z.2) (fun z=>[(36,int z.1)]) (fun z=>Own z.2) (fun z=>F.length - z.1) pickZ ⟨by dsimp only; omega,hI0⟩ covZ Sel.refl ?_
 rintro ⟨k,σ'⟩ ⟨hk,hI⟩
 dsimp only at hk hI ⊢
 by_cases hlt:k < F.length
 rotate_left
 ·have hke:k = F.length:=by omega
  subst hke;rw [List.take_length] at hI;refine Abl ?_
  refine CO (res0 rfl) (fun _ h=>List.mem_cons_of_mem _ (List.mem_cons_of_mem _ h)) Sel.refl ⟨σ',rfl,.inl ?_⟩
  rw [List.length_map];exact hI
 have hz:=List.getElem?_eq_getElem hlt
 have hlen:=tickL_len d.r d.e x.g F hz
 have hat:=fun t h1 h2=>tickL_at d.r d.e x.g F hz (t:=t) h1 h2
 have hin:=hfin _ (List.getElem_mem hlt)
 obtain ⟨b6,o6,rfl,hRd6,y0,y1⟩:=spRow hrf hz
 generalize F[k] = z at hz hlen hat hin hRd6 y0 y1
 refine Ab1 ?_;refine AY ?_; rintro _ _ ⟨b,rfl,rfl⟩;refine AU ?_; rintro _ _ ⟨rfl,rfl⟩;refine Aal ?_
 revert b; intro b8
 refine A8 (.q 0 (.q 1 (.q 2 (.q 3 (.q 4 (.q 5 (.q 6 (.q 7 (.q 8 .nil))))))))) [] rfl (by kernel_rfl) Sel.nil ?_
 refine Aar ?_;refine AR ?_;refine Adn ?_;refine Ab8 ?_;refine zd_max ?_;refine Adm ?_;refine AO ?_
 refine BA [0,1,2,4,8,34,35,36] (X:=Int × S) (max z.1 d.r,σ') (fun w=>max z.1 d.r ≤ w.1 ∧ (w.1 ≤ min z.2 (d.e - x.g) ∨ w.1 = max z.1 d.r) ∧ Inv ((tickL d.r d.e x.g (F.take k)).length + (w.1 - max z.1 d.r).toNat) w.2) (fun w=>[(9,int w.1)]) (fun w=>sng b8 (.cells #[int z.1,int z.2] 152 (0,0)) :: Own w.2) (fun w=>(1099511627776 - w.1).toNat) pickZ ⟨by dsimp only; omega,by dsimp only; omega,by dsimp only; rw [show (max z.1 d.r - max z.1 d.r).toNat = 0 by omega,Nat.add_zero]; exact hI⟩ covZ Sel.refl ?_
 rintro ⟨t,σ2⟩ ⟨ht1,ht2,hI2⟩
 dsimp only at ht1 ht2 hI2 ⊢
 by_cases hz2:t < z.2
 ·by_cases hg2:t + 1 + x.g ≤ d.e
  ·have hya:=hy _ σ2 (Eng.encI t) (by rw [List.getElem?_map,hat t ht1 (by omega)]; rfl) hI2
   refine AC ?_;refine AC ?_
   refine A8 (.q 0 (.q 1 (.q 2 (.q 3 (.q 4 (.q 5 (.q 6 (.q 7 (.q 8 (.q 9 (.q 10 (.q 11 (.q 12 (.q 13 (.q 14 (.q 15 (.q 16 .nil))))))))))))))))) [] rfl (by kernel_rfl) Sel.nil ?_
   refine Acx ?_;refine FM ?_;refine Aa7 ?_;refine DK ?_;refine Aar ?_;refine DK ?_;refine AR ?_;refine Adn ?_;refine Ab8 ?_;refine G4 ?_;refine BV ?_;refine Ab0 ?_;refine Aav ?_;refine Abn ?_
   refine BC hya rfl rfl (Takes.skip Takes.all) (fun τ hτ=>.inl (by simp [hτ])) rfl rfl ?_
   rintro _ H' ⟨σ3,rfl,⟨rfl,hI3⟩ | ⟨rfl,hSt⟩⟩
   ·refine CS (H':=_ :: Own σ3) (List.perm_append_comm (l₂:=[_])) ?_
    refine Acb ?_;refine Aca ?_;refine CG ?_;refine Aaa ?_
    refine AX (t + 1,σ3) ⟨by dsimp only; omega,by dsimp only; omega,?_⟩ (by dsimp only; omega) covZ Sel.refl
    dsimp only
    rw [show (t + 1 - max z.1 d.r).toNat = (t - max z.1 d.r).toNat + 1 by omega]
    exact hI3
   ·refine BE ?_
    refine Aah ?_
    exact AI (res0 rfl) (fun _ h=>List.mem_cons_of_mem _ (List.mem_cons_of_mem _ h)) Sel.left ⟨σ3,rfl,.inr hSt⟩
  ·refine AC ?_
   refine AC ?_
   refine A8 (.q 0 (.q 1 (.q 2 (.q 3 (.q 4 (.q 5 (.q 6 (.q 7 (.q 8 (.q 9 (.q 10 (.q 11 (.q 12 (.q 13 (.q 14 (.q 15 (.q 16 .nil))))))))))))))))) [] rfl (by kernel_rfl) Sel.nil ?_
   refine Acx ?_;refine FM ?_;refine Aa7 ?_;refine DK ?_;refine Aar ?_;refine DK ?_;refine AR ?_;refine Adn ?_;refine Ab8 ?_;refine FY ?_;refine BV ?_;refine A5 ?_;refine Aaq ?_;refine Aa0 ?_
   refine AX (k + 1,σ2) ⟨by dsimp only; omega,?_⟩ (by dsimp only; omega) covZ (Sel.skip Sel.refl)
   dsimp only
   rw [hlen,show (min z.2 (d.e - x.g) - max z.1 d.r).toNat = (t - max z.1 d.r).toNat by omega]
   exact hI2
 ·refine AC ?_
  refine AC ?_
  refine A8 (.q 0 (.q 1 (.q 2 (.q 3 (.q 4 (.q 5 (.q 6 (.q 7 (.q 8 (.q 9 (.q 10 (.q 11 (.q 12 (.q 13 (.q 14 (.q 15 (.q 16 .nil))))))))))))))))) [] rfl (by kernel_rfl) Sel.nil ?_
  refine Acx ?_;refine D8 ?_;refine Adq ?_;refine Aaf ?_;refine Ads ?_;refine A5 ?_;refine Aaq ?_;refine Aa0 ?_
  refine AX (k + 1,σ2) ⟨by dsimp only; omega,?_⟩ (by dsimp only; omega) covZ (Sel.skip Sel.refl)
  dsimp only
  rw [hlen,show (min z.2 (d.e - x.g) - max z.1 d.r).toNat = (t - max z.1 d.r).toNat by omega]
  exact hI2
end Go.Proofs.YtjehnjhkcmobcaaGreat
/- Places and arcs, one after the other; what a map holds; the end of a function behind loops over functions. No conditions. -/
namespace Go.Eng
variable {C:Cx} {R H:List PH} {L:Env} {dst:Option Tmp} {ty:TypeId} {pos:String} {aft:Array Edge} {g:Option (Nat × Bool)}
theorem C3 {x y:Operand} {t kt et:TypeId} {b:Nat} (n:Nat) (k:List Int) {l:List (List Int × Value)} {z v:Value} (h:evalE L x = some (.map (some b))) (hk:evalE L y = some (aggI k)) (ht:C.P.underlying t = some (.map kt et)) (hkt:KeyS C.P kt n) (hn:k.length = n) (hl:∀ x ∈ l,x.1.length = n) (hz:zeroP C.P et = some z) (hv:mgetS k l = some v) (hm:MapAtS C.N R H b l) :
    Quiet C R H L ⟨dst,.lookup t x y false,ty,pos,aft,g⟩ v:=by
  have:=EC (C:=C) (R:=R) (H:=H) (L:=L) (dst:=dst) (ty:=ty) (pos:=pos) (aft:=aft) (g:=g) n k h hk ht hkt hn hl hz hm
  rwa [hv,Option.getD_some] at this
theorem GH {P:Program} {fn:Func} {N:Bs} {M:Nat} {R R0 H H1 H':List PH} {L:Env} {post:Value → List PH → Prop} {v:Value} {ms:List Nat} {μ:PH} (m:MkIn μ ms) (t:Take μ H H1)
    (hv:∀ a w,Frm M L a → Sat N R H1 w → (results fn a.tmps).run P w = .ok v w) (hR:∀ ρ ∈ R0,ρ ∈ R) (hH:Sel H1 H') (hp:post v H') :
    JK ⟨none,P,FnQ P fn N R0 post,N,M⟩ (ms.map mk) R H L []:=by
  refine ⟨fun a w hf hd hs=>?_⟩
  show MarksQ _ _ _ _ a.defers w
  rw [hd]
  exact m.run (hs.take t) (fun w' hs'=>⟨v,hv a w' hf hs',H',hp,(hs'.rsub hR).sel hH⟩)
end Go.Eng
namespace Go.Step
section
variable {qs:List Int} {cs:List Ct} {bs:List Bk} {hs:List Hd} {d:Dm}
theorem waitN_at {n:Int} {t:Int} (h1:d.r ≤ t) (h2:t < d.e):(waitN qs hs d n)[(t - d.r).toNat]? = some ⟨⟨vtx d n t,vtx d n (t + 1),roomT qs hs d n t⟩,-1,t⟩:=by
  unfold waitN
  rw [List.getElem?_map,rngI_get (by omega),show d.r + ((t - d.r).toNat:Int) = t by omega]
  rfl
theorem waitA_at {n:Nat} {t:Int} (h1:d.r ≤ t) (h2:t < d.e):∀ {m:Nat},n < m → (waitA qs hs d m)[n * (d.e - d.r).toNat + (t - d.r).toNat]? = some ⟨⟨vtx d n t,vtx d n (t + 1),roomT qs hs d n t⟩,-1,t⟩
  | 0,h=>by omega
  | m + 1,h=>by
    have hl:=waitA_len qs hs d m
    unfold waitA
    by_cases hn:n < m
    · have h3:(n + 1) * (d.e - d.r).toNat ≤ m * (d.e - d.r).toNat:=Nat.mul_le_mul_right _ hn
      rw [Nat.add_mul,Nat.one_mul] at h3
      rw [List.getElem?_append_left (by omega)]
      exact waitA_at h1 h2 hn
    · obtain rfl:n = m:=by omega
      rw [List.getElem?_append_right (by omega),hl,Nat.add_sub_cancel_left]
      exact waitN_at h1 h2
theorem conA_pre (cs:List Ct) (bs:List Bk) (d:Dm) (i:Nat):∀ m:Nat,i < m → ∃ rest,conA cs bs d m = conA cs bs d i ++ (conN cs bs d i ++ rest)
  | 0,h=>by omega
  | m + 1,h=>by
    by_cases hi:i < m
    · obtain ⟨rest,e⟩:=conA_pre cs bs d i m hi
      refine ⟨rest ++ conN cs bs d m,?_⟩
      show conA cs bs d m ++ _ = _
      rw [e]
      simp
    · obtain rfl:i = m:=by omega
      exact ⟨[],by show conA cs bs d i ++ _ = _; simp⟩
theorem arcs_wait {n:Nat} {t:Int} (hn:n < qs.length) (h1:d.r ≤ t) (h2:t < d.e):(arcsE qs cs bs hs d)[n * (d.e - d.r).toNat + (t - d.r).toNat]? = some ⟨⟨vtx d n t,vtx d n (t + 1),roomT qs hs d n t⟩,-1,t⟩:=by
  have hl:=waitA_len qs hs d qs.length
  have h3:(n + 1) * (d.e - d.r).toNat ≤ qs.length * (d.e - d.r).toNat:=Nat.mul_le_mul_right _ hn
  rw [Nat.add_mul,Nat.one_mul] at h3;unfold arcsE
  rw [List.getElem?_append_left (by omega)]
  exact waitA_at h1 h2 hn
theorem arcs_con {i:Nat} {c:Ct} (hc:cs[i]? = some c) {j:Nat} {t:Int} (ht:(tickL d.r d.e c.g (freeC cs bs i))[j]? = some t):(arcsE qs cs bs hs d)[(waitA qs hs d qs.length).length + (conA cs bs d i).length + j]? = some (conE d c i t):=by
  obtain ⟨rest,e⟩:=conA_pre cs bs d i cs.length (List.getElem?_eq_some_iff.1 hc).1
  have hN:conN cs bs d i = (tickL d.r d.e c.g (freeC cs bs i)).map (conE d c i):=by unfold conN; rw [hc]
  unfold arcsE
  rw [e,List.getElem?_append_right (by omega),show (waitA qs hs d qs.length).length + (conA cs bs d i).length + j - (waitA qs hs d qs.length).length = (conA cs bs d i).length + j by omega,List.getElem?_append_right (by omega),Nat.add_sub_cancel_left,List.getElem?_append_left (by
    rw [hN,List.length_map]
    exact (List.getElem?_eq_some_iff.1 ht).1),hN,List.getElem?_map,ht]
  rfl
theorem conA_next (cs:List Ct) (bs:List Bk) (d:Dm) {i:Nat} {c:Ct} (hc:cs[i]? = some c):(conA cs bs d (i + 1)).length = (conA cs bs d i).length + (tickL d.r d.e c.g (freeC cs bs i)).length:=by
  show (conA cs bs d i ++ conN cs bs d i).length = _
  unfold conN;rw [hc,List.length_append,List.length_map]
theorem place_of (h:d.r ≤ d.e) {k N:Nat} (hk:(k:Int) < N * wd d):∃ (n:Nat) (t:Int),n < N ∧ d.r ≤ t ∧ t ≤ d.e ∧ (k:Int) = vtx d n t ∧ k = n * (wd d).toNat + (t - d.r).toNat:=by
  obtain ⟨⟨a1,a2⟩,⟨b1,b2⟩,c⟩:=vtx_of (d:=d) (v:=(k:Int)) (N:=N) (by unfold wd; omega) (by omega) hk
  obtain ⟨n,hn⟩:=Int.eq_ofNat_of_zero_le a1
  have hw:(((wd d).toNat:Nat):Int) = wd d:=by unfold wd; omega
  rw [hn] at c
  generalize (k:Int) % wd d = m at b1 b2 c
  refine ⟨n,d.r + m,by omega,b1,b2,c.symm,?_⟩
  have e:((n * (wd d).toNat + (d.r + m - d.r).toNat:Nat):Int) = (k:Int):=by
    rw [Int.natCast_add,Int.natCast_mul,hw,← c];unfold vtx;omega
  omega
end
end Go.Step
/- Where the ways of a test meet behind it: the test's region and the test. No conditions. -/
namespace Go.Eng
variable {C:Cx} {D:List Deferred} {R H:List PH} {L:Env} {K:List It}
end Go.Eng
