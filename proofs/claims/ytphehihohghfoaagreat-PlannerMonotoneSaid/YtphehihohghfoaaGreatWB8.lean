/- Texts of this proof, one after the other; no conditions. -/
import Derived.Test.YtphehihohghfoaaGreatWB7
import Derived.Test.YtphehihohghfoaaGreatWB2
import Derived.Test.YtphehihohghfoaaGreatWB6
import Derived.Test.YtphehihohghfoaaGreatWB5
import Derived.Test.YtphehihohghfoaaGreatWB1
set_option linter.all false
/- The graph, and the numbers of its places. -/
namespace Go.Proofs.YtphehihohghfoaaGreat
open Go.Eng Go.Step
set_option maxRecDepth 100000
set_option maxHeartbeats 4000000

theorem ea_len (qs:List Int) (cs:List Ct) (bs:List Bk) (hs:List Hd) (d:Dm) (h:VOk qs cs bs hs d):(arcsE qs cs bs hs d).length ≤ 1000000:=by
 have:=h.len
 omega
set_option maxHeartbeats 32000000 in
theorem graph_spec {ρ τ σ υ:PH} {pq pc pb ph:Option Addr} {kq kc kb kh:Nat} {qs:List Int} {cs:List Ct} {bs:List Bk} {hs:List Hd} (hT:TbAt ρ τ σ υ pq pc pb ph kq kc kb kh qs cs bs hs) (bw bm kp:Nat) (pl:Option Addr) (χ:PH) (M:List (List Int × Value)) (d:Dm) (h:VOk qs cs bs hs d) (h0:chkB qs cs bs = 0) (hpl:SlE encS 2 χ (.slice pl (placesA d qs.length).length kp) (placesA d qs.length)) (hM:NumAt d qs.length d.r M) :
  Makes Tryz.prog (fv 62) [.pointer (some ⟨bw,0,none⟩)] [sng bw (.cells #[.slice pq qs.length kq,.slice pc cs.length kc,.slice pb bs.length kb,.slice ph hs.length kh,int d.s,int d.d,int d.v,int d.r,int d.e,.slice pl (placesA d qs.length).length kp,.map (some bm)] 134 (0,0)),sng bm (mapS M),χ,ρ,τ,σ,υ] (fun r χ'=>∃ u,r = .agg #[int (vsN qs d),u,int (vtx d d.s d.r),int (vtx d d.d d.e)] ∧ OwnS 141 3 u (arcsG qs cs bs hs d).length ((arcsG qs cs bs hs d).flatMap encA) χ'):=by
 have hdm:=h.dm
 unfold okDm at hdm
 have hnq:=h.nq
 have hMl:=hM.1
 have hl1:=numAt_get hM (n:=d.s) (t:=d.r) (by omega) (by omega) (by omega) (by omega)
 have hl2:=numAt_get hM (n:=d.d) (t:=d.e) (by omega) (by omega) (by omega) (by omega)
 have hit:=fun c1=>arcs_iter hT bw bm c1 kp pl χ M d h h0 hpl hM
 have hEl:=ea_len qs cs bs hs d h
 have hplen:(((placesA d qs.length).length:Nat):Int) = vsN qs d:=placesA_len (d:=d) (by omega) qs.length
 have hone:∀ z n (xs:List Value) (χ:PH),OwnS 141 3 z n xs χ → z.oneCell' = true:=fun z n xs χ h=>by obtain ⟨_,_,rfl⟩:=h.form; rfl
 have w0:rdc (sng bw (.cells #[.slice pq qs.length kq,.slice pc cs.length kc,.slice pb bs.length kb,.slice ph hs.length kh,int d.s,int d.d,int d.v,int d.r,int d.e,.slice pl (placesA d qs.length).length kp,.map (some bm)] 134 (0,0))) bw 0 = some (.slice pq qs.length kq):=by rw [rdc_sng]; rfl
 have w1:rdc (sng bw (.cells #[.slice pq qs.length kq,.slice pc cs.length kc,.slice pb bs.length kb,.slice ph hs.length kh,int d.s,int d.d,int d.v,int d.r,int d.e,.slice pl (placesA d qs.length).length kp,.map (some bm)] 134 (0,0))) bw 1 = some (.slice pc cs.length kc):=by rw [rdc_sng]; rfl
 have w2:rdc (sng bw (.cells #[.slice pq qs.length kq,.slice pc cs.length kc,.slice pb bs.length kb,.slice ph hs.length kh,int d.s,int d.d,int d.v,int d.r,int d.e,.slice pl (placesA d qs.length).length kp,.map (some bm)] 134 (0,0))) bw 2 = some (.slice pb bs.length kb):=by rw [rdc_sng]; rfl
 have w3:rdc (sng bw (.cells #[.slice pq qs.length kq,.slice pc cs.length kc,.slice pb bs.length kb,.slice ph hs.length kh,int d.s,int d.d,int d.v,int d.r,int d.e,.slice pl (placesA d qs.length).length kp,.map (some bm)] 134 (0,0))) bw 3 = some (.slice ph hs.length kh):=by rw [rdc_sng]; rfl
 have w4:rdc (sng bw (.cells #[.slice pq qs.length kq,.slice pc cs.length kc,.slice pb bs.length kb,.slice ph hs.length kh,int d.s,int d.d,int d.v,int d.r,int d.e,.slice pl (placesA d qs.length).length kp,.map (some bm)] 134 (0,0))) bw 4 = some (int d.s):=by rw [rdc_sng]; rfl
 have w5:rdc (sng bw (.cells #[.slice pq qs.length kq,.slice pc cs.length kc,.slice pb bs.length kb,.slice ph hs.length kh,int d.s,int d.d,int d.v,int d.r,int d.e,.slice pl (placesA d qs.length).length kp,.map (some bm)] 134 (0,0))) bw 5 = some (int d.d):=by rw [rdc_sng]; rfl
 have w6:rdc (sng bw (.cells #[.slice pq qs.length kq,.slice pc cs.length kc,.slice pb bs.length kb,.slice ph hs.length kh,int d.s,int d.d,int d.v,int d.r,int d.e,.slice pl (placesA d qs.length).length kp,.map (some bm)] 134 (0,0))) bw 6 = some (int d.v):=by rw [rdc_sng]; rfl
 have w7:rdc (sng bw (.cells #[.slice pq qs.length kq,.slice pc cs.length kc,.slice pb bs.length kb,.slice ph hs.length kh,int d.s,int d.d,int d.v,int d.r,int d.e,.slice pl (placesA d qs.length).length kp,.map (some bm)] 134 (0,0))) bw 7 = some (int d.r):=by rw [rdc_sng]; rfl
 have w8:rdc (sng bw (.cells #[.slice pq qs.length kq,.slice pc cs.length kc,.slice pb bs.length kb,.slice ph hs.length kh,int d.s,int d.d,int d.v,int d.r,int d.e,.slice pl (placesA d qs.length).length kp,.map (some bm)] 134 (0,0))) bw 8 = some (int d.e):=by rw [rdc_sng]; rfl
 have w9:rdc (sng bw (.cells #[.slice pq qs.length kq,.slice pc cs.length kc,.slice pb bs.length kb,.slice ph hs.length kh,int d.s,int d.d,int d.v,int d.r,int d.e,.slice pl (placesA d qs.length).length kp,.map (some bm)] 134 (0,0))) bw 9 = some (.slice pl (placesA d qs.length).length kp):=by rw [rdc_sng]; rfl
 have w10:rdc (sng bw (.cells #[.slice pq qs.length kq,.slice pc cs.length kc,.slice pb bs.length kb,.slice ph hs.length kh,int d.s,int d.d,int d.v,int d.r,int d.e,.slice pl (placesA d qs.length).length kp,.map (some bm)] 134 (0,0))) bw 10 = some (.map (some bm)):=by rw [rdc_sng]; rfl
 have wp:RdP (sng bw (.cells #[.slice pq qs.length kq,.slice pc cs.length kc,.slice pb bs.length kb,.slice ph hs.length kh,int d.s,int d.d,int d.v,int d.r,int d.e,.slice pl (placesA d qs.length).length kp,.map (some bm)] 134 (0,0))) bw 0 [.slice pq qs.length kq,.slice pc cs.length kc]:=rdP_sng (xs:=[.slice pq qs.length kq,.slice pc cs.length kc,.slice pb bs.length kb,.slice ph hs.length kh,int d.s,int d.d,int d.v,int d.r,int d.e,.slice pl (placesA d qs.length).length kp,.map (some bm)]) rfl
 refine spec_in (cap:=[]) Tryz.func62 rfl rfl Tryz.ntmps62 rfl envZ (fun N β=>?_)
 refine BV ?_;refine AD ?_;refine AA ?_;refine AY ?_; rintro _ _ ⟨b,rfl,rfl⟩;refine AE ?_;refine AD ?_
 revert b; intro b2
 refine ES (X:=Nat) [0,2] (fun _=>True) (fun x=>[(3,.pointer (some ⟨x,0,none⟩))]) (fun x=>[sng x (.cells #[int (vsN qs d),.slice none 0 0,int (vtx d d.s d.r),int (vtx d d.d d.e)] 69 (0,0)),sng b2 (.cells #[int 0,.slice none 0 0,int 0,int 0] 69 (0,0)),emp]) pickZ ?_ ?_
 ·refine A5 (.q 0 (.q 1 (.q 2 (.q 3 (.q 4 (.q 5 (.q 6 (.q 7 (.q 8 (.q 9 (.q 10 (.q 11 (.q 12 (.q 13 (.q 14 (.q 15 (.q 16 (.q 17 (.q 18 (.q 19 (.q 20 (.q 21 (.q 22 (.q 23 (.q 24 (.q 25 (.q 26 (.q 27 (.q 28 (.q 29 (.q 30 (.q 31 (.q 32 (.q 33 (.q 34 (.q 35 (.q 36 (.q 37 (.l 38 .e (.l 39 .b .nil)))))))))))))))))))))))))))))))))))))))) [] rfl (by kernel_rfl) Sel.nil ?_
  repeat' (first
   | (refine AR ?_)
   | (refine AQ ?_)
   | (refine AU ?_)
   | (refine B6 ?_)
   | (refine CD ?_)
   | (refine EH ?_)
   | (refine A0 ?_)
   | (refine CQ ?_)
   | (focus ((refine' CV rfl _ rfl rfl rfl rfl _; rotate_left; (focus (first | exact CM 2 [d.s,d.r] rfl rfl rfl ⟨by kernel_rfl,by kernel_rfl⟩ rfl hMl rfl hl1 (mapAtS_rd memZ) | exact CM 2 [d.d,d.e] rfl rfl rfl ⟨by kernel_rfl,by kernel_rfl⟩ rfl hMl rfl hl2 (mapAtS_rd memZ))))))
   | (focus ((refine CN ?_; refine' FY rfl _ rfl rfl _ _; rotate_left; (focus (apply C4; exact rfl; exact rfl; exact takeZ; exact (by (repeat (first | exact (fun v hv=>absurd hv List.not_mem_nil) | (refine List.forall_mem_cons.2 ⟨?_,?_⟩; (focus (first | exact rfl | assumption))))); first | done | fail); exact rfl; exact rfl)); (focus (rintro _ _ ⟨_,rfl⟩ w hw; exact hw.sel Sel.nil)); rintro _ _ ⟨rfl,rfl⟩)))
   | (refine A6 ?_)
   | (refine C1 ?_; rintro _ _ ⟨b,rfl,rfl⟩)
   | fail)
  all_goals (rw [hplen]; refine DQ _ trivial covZ selZ)
 rintro b3 _;refine AD ?_;refine AD ?_;refine AA ?_;refine AB ?_
 refine BE (arcs_spec bw) rfl rfl Takes.nil (fun τ hτ=>by simp at hτ) rfl rfl ?_
 rintro _ _ ⟨c1,rfl,rfl⟩;refine AS (ρ:=sng c1 _) takeZ ?_;refine AE ?_;refine AP ?_
 refine CX (gf:=102) (cap:=[.pointer (some ⟨c1,0,none⟩)]) (ps:=[45]) (X:=Value × PH) rfl Tryz.func102 rfl rfl
  (hit c1) ?_
  (fun i x=>OwnS 141 3 x.1 ((arcsE qs cs bs hs d).take i).length (((arcsE qs cs bs hs d).take i).flatMap (fun e=>encA e.a)) x.2)
  (fun x=>[sng b3 (.cells #[int (vsN qs d),x.1,int (vtx d d.s d.r),int (vtx d d.d d.e)] 69 (0,0)),sng b2 (.cells #[int 0,.slice none 0 0,int 0,int 0] 69 (0,0)),x.2]) (fun _ _=>False) (.slice none 0 0,emp) rfl takesZ (OwnS.nil _ _) ?_ ?_ ?_
 ·intro σ' hσ
  simp only [List.mem_cons,List.not_mem_nil,or_false] at hσ ⊢
  rcases hσ with h | h | h | h | h | h | h | h <;> simp [h]
 ·rintro lo r i ⟨u,σ1⟩ vs hvs hO hps has hbd hst hpe hfr
  obtain ⟨st,pe,fnn,tm,prm,asg,bdy,df⟩:=r
  simp only at hps has hbd hst hpe hfr;subst hps has hbd hst hpe;rw [List.getElem?_map] at hvs
  obtain ⟨x,hx,rfl⟩:=Option.map_eq_some_iff.1 hvs
  dsimp only at hO
  have hti:((arcsE qs cs bs hs d).take (i + 1)) = (arcsE qs cs bs hs d).take i ++ [x]:=by
   rw [List.take_add_one,hx]; rfl
  have hil:((arcsE qs cs bs hs d).take i).length ≤ 1000000:=by rw [List.length_take]; omega
  simp only [hti]
  generalize (arcsE qs cs bs hs d).take i = O at hO hil
  have hu1:=hone _ _ _ _ hO
  refine yield_spec hfr rfl (by intro p hp; simp at hp; omega) putiZ (fun N' β'=>?_)
  dsimp only
  refine AA ?_;refine AY ?_; rintro _ _ ⟨b,rfl,rfl⟩;refine AW ?_; rintro _ _ ⟨rfl,rfl⟩;refine AE ?_;refine CK rfl rfl ?_;refine CU takeZ rfl ?_
  revert b; intro bx
  refine AS (ρ:=sng bx _) takeZ ?_
  have px:RdP (sng bx (.cells #[int x.a.f,int x.a.t,int x.a.c,int x.c,int x.t] 150 (0,0))) bx 0 [int x.a.f,int x.a.t,int x.a.c]:=rdP_sng (xs:=[int x.a.f,int x.a.t,int x.a.c,int x.c,int x.t]) rfl
  refine AP ?_;refine AA ?_;refine AG ?_;refine AF ?_;refine AG ?_;refine AT ?_;refine BF ?_; rintro _ _ ⟨b,rfl,rfl⟩
  refine BH (BZ (by_:=24) (s:=3) (news:=[int x.a.f,int x.a.t,int x.a.c]) rfl rfl rfl rfl rfl rfl rfl hO takeZ (cells_own memZ) rfl (by (repeat (first | exact (fun v hv=>absurd hv List.not_mem_nil) | (refine List.forall_mem_cons.2 ⟨?_,?_⟩; (focus (first | exact rfl | assumption))))); first | done | fail) (by omega) (by simp only [maxLen]; omega) (by omega)) rfl rfl rfl ?_
  rintro u1 _ ⟨σ2,hO1,rfl⟩
  have hu2:=hone _ _ _ _ hO1
  refine AG ?_;refine A7 ?_; rintro _ _ ⟨rfl,rfl⟩;refine AE ?_;refine A4 ?_;refine BO takeZ rsubZ selZ ⟨(u1,σ2),.inl ⟨rfl,?_,rfl⟩⟩
  dsimp only
  rw [List.length_append,List.flatMap_append];exact hO1
 ·rintro b9 ⟨u,σ1⟩ hO
  rw [List.length_map,List.take_length] at hO
  dsimp only at hO
  have hO2:OwnS 141 3 u (arcsG qs cs bs hs d).length ((arcsG qs cs bs hs d).flatMap encA) σ1:=by
   unfold arcsG;rw [List.length_map,List.flatMap_map];exact hO
  have hu1:=hone _ _ _ _ hO2
  refine A4 ?_;refine AD ?_;refine AA ?_;refine AT ?_;refine AW ?_; rintro _ _ ⟨rfl,rfl⟩;refine AE ?_;refine D0 (v:=.agg #[int (vsN qs d),u,int (vtx d d.s d.r),int (vtx d d.d d.e)]) (Marks.cons (.there .here) .nil) ?_ rsubZ ?_ ⟨σ1,⟨u,rfl,hO2⟩,rfl⟩
  ·exact resS1 (b1:=b2) (T:=69) (v1:=[int (vsN qs d),u,int (vtx d d.s d.r),int (vtx d d.d d.e)]) rfl rfl rfl rfl (cells_own memZ)
  ·exact selZ
 ·rintro _ _ _ h; exact h.elim
set_option maxHeartbeats 16000000 in
theorem Graph_spec {ρ τ σ υ:PH} {pq pc pb ph:Option Addr} {kq kc kb kh:Nat} {qs:List Int} {cs:List Ct} {bs:List Bk} {hs:List Hd} (hT:TbAt ρ τ σ υ pq pc pb ph kq kc kb kh qs cs bs hs) (d:Dm) :
  Makes Tryz.prog (fv 39) [.agg #[.slice pq qs.length kq,.slice pc cs.length kc,.slice pb bs.length kb,.slice ph hs.length kh],.agg #[int d.s,int d.d,int d.v,int d.r,int d.e]] [ρ,τ,σ,υ] (fun r χ'=>if validT qs cs bs hs d = true then ∃ u,r = .tuple #[.agg #[int (vsN qs d),u,int (vtx d d.s d.r),int (vtx d d.d d.e)],int 0] ∧ OwnS 141 3 u (arcsG qs cs bs hs d).length ((arcsG qs cs bs hs d).flatMap encA) χ' else r = .tuple #[.agg #[int 0,.slice none 0 0,int 0,int 0],int 1] ∧ χ' = emp):=by
 refine spec_in (cap:=[]) Tryz.func39 rfl rfl Tryz.ntmps39 rfl envZ (fun N β=>?_)
 refine AD ?_;refine AA ?_;refine BH (BK rfl) rfl rfl rfl ?_;rintro _ _ ⟨b1,rfl,rfl⟩;refine AS (ρ:=sng b1 _) takeZ ?_
 have ct:RdN (sng b1 (.cells #[.slice pq qs.length kq,.slice pc cs.length kc,.slice pb bs.length kb,.slice ph hs.length kh] 29 (0,0))) b1 0 [.slice pq qs.length kq,.slice pc cs.length kc,.slice pb bs.length kb,.slice ph hs.length kh]:=rdN_sng (vs:=[.slice pq qs.length kq,.slice pc cs.length kc,.slice pb bs.length kb,.slice ph hs.length kh])
 have ct0:rdc (sng b1 (.cells #[.slice pq qs.length kq,.slice pc cs.length kc,.slice pb bs.length kb,.slice ph hs.length kh] 29 (0,0))) b1 0 = some (.slice pq qs.length kq):=by rw [rdc_sng]; rfl
 have ct1:rdc (sng b1 (.cells #[.slice pq qs.length kq,.slice pc cs.length kc,.slice pb bs.length kb,.slice ph hs.length kh] 29 (0,0))) b1 1 = some (.slice pc cs.length kc):=by rw [rdc_sng]; rfl
 have ct2:rdc (sng b1 (.cells #[.slice pq qs.length kq,.slice pc cs.length kc,.slice pb bs.length kb,.slice ph hs.length kh] 29 (0,0))) b1 2 = some (.slice pb bs.length kb):=by rw [rdc_sng]; rfl
 have ct3:rdc (sng b1 (.cells #[.slice pq qs.length kq,.slice pc cs.length kc,.slice pb bs.length kb,.slice ph hs.length kh] 29 (0,0))) b1 3 = some (.slice ph hs.length kh):=by rw [rdc_sng]; rfl
 have ctp:RdP (sng b1 (.cells #[.slice pq qs.length kq,.slice pc cs.length kc,.slice pb bs.length kb,.slice ph hs.length kh] 29 (0,0))) b1 0 [.slice pq qs.length kq,.slice pc cs.length kc]:=rdP_sng (xs:=[.slice pq qs.length kq,.slice pc cs.length kc,.slice pb bs.length kb,.slice ph hs.length kh]) rfl
 refine BH (BK rfl) rfl rfl rfl ?_;rintro _ _ ⟨b2,rfl,rfl⟩;refine AS (ρ:=sng b2 _) takeZ ?_
 have cd:RdN (sng b2 (.cells #[int d.s,int d.d,int d.v,int d.r,int d.e] 31 (0,0))) b2 0 [int d.s,int d.d,int d.v,int d.r,int d.e]:=rdN_sng (vs:=[int d.s,int d.d,int d.v,int d.r,int d.e])
 have cd0:rdc (sng b2 (.cells #[int d.s,int d.d,int d.v,int d.r,int d.e] 31 (0,0))) b2 0 = some (int d.s):=by rw [rdc_sng]; rfl
 have cd1:rdc (sng b2 (.cells #[int d.s,int d.d,int d.v,int d.r,int d.e] 31 (0,0))) b2 1 = some (int d.d):=by rw [rdc_sng]; rfl
 have cd2:rdc (sng b2 (.cells #[int d.s,int d.d,int d.v,int d.r,int d.e] 31 (0,0))) b2 2 = some (int d.v):=by rw [rdc_sng]; rfl
 have cd3:rdc (sng b2 (.cells #[int d.s,int d.d,int d.v,int d.r,int d.e] 31 (0,0))) b2 3 = some (int d.r):=by rw [rdc_sng]; rfl
 have cd4:rdc (sng b2 (.cells #[int d.s,int d.d,int d.v,int d.r,int d.e] 31 (0,0))) b2 4 = some (int d.e):=by rw [rdc_sng]; rfl
 refine BV ?_;refine AY ?_; rintro _ _ ⟨b,rfl,rfl⟩;refine AC ?_;refine AE ?_;refine AD ?_;refine AA ?_;refine AT ?_;refine AT ?_
 revert b; intro b4
 refine BE (build_spec hT d) rfl rfl Takes.nil rdZ rfl rfl ?_;rintro _ H' (⟨hv,rfl,rfl⟩ | ⟨hv,bw,bm,pl0,χ,M,rfl,rfl,hO,hM⟩)
 ·refine AB ?_
  refine AO ?_;refine AO ?_;refine AC ?_;refine AC ?_;refine AE ?_;refine AD ?_;refine AD ?_;refine AA ?_;refine AB ?_;refine BB ?_;refine AE ?_;refine AM rfl ?_;refine AD ?_;refine AA ?_;refine BR ?_;refine AW ?_; rintro _ _ ⟨rfl,rfl⟩;refine AC ?_;refine AE ?_
  exact AI (resSE (b1:=b4) (T:=69) (v1:=[int 0,.slice none 0 0,int 0,int 0]) rfl rfl rfl rfl rfl (cells_own memZ)) rsubZ selZ ⟨emp,by dsimp only; rw [if_neg (by simp [hv])]; exact ⟨rfl,rfl⟩,rfl⟩
 have h:=vok hv
 have h0:=vokB hv
 have hdm:=h.dm
 unfold okDm at hdm
 have hnq:=h.nq
 obtain ⟨pl,kp,rfl⟩:=hO.form
 have hpl:SlE encS 2 χ (.slice pl (placesA d qs.length).length kp) (placesA d qs.length):=hO.at
 refine AS (ρ:=sng bw _) takeZ ?_;refine AS (ρ:=sng bm _) takeZ ?_;refine AS (ρ:=χ) takeZ ?_
 have w0:rdc (sng bw (.cells #[.slice pq qs.length kq,.slice pc cs.length kc,.slice pb bs.length kb,.slice ph hs.length kh,int d.s,int d.d,int d.v,int d.r,int d.e,.slice pl (placesA d qs.length).length kp,.map (some bm)] 134 (0,0))) bw 0 = some (.slice pq qs.length kq):=by rw [rdc_sng]; rfl
 have w1:rdc (sng bw (.cells #[.slice pq qs.length kq,.slice pc cs.length kc,.slice pb bs.length kb,.slice ph hs.length kh,int d.s,int d.d,int d.v,int d.r,int d.e,.slice pl (placesA d qs.length).length kp,.map (some bm)] 134 (0,0))) bw 1 = some (.slice pc cs.length kc):=by rw [rdc_sng]; rfl
 have w2:rdc (sng bw (.cells #[.slice pq qs.length kq,.slice pc cs.length kc,.slice pb bs.length kb,.slice ph hs.length kh,int d.s,int d.d,int d.v,int d.r,int d.e,.slice pl (placesA d qs.length).length kp,.map (some bm)] 134 (0,0))) bw 2 = some (.slice pb bs.length kb):=by rw [rdc_sng]; rfl
 have w3:rdc (sng bw (.cells #[.slice pq qs.length kq,.slice pc cs.length kc,.slice pb bs.length kb,.slice ph hs.length kh,int d.s,int d.d,int d.v,int d.r,int d.e,.slice pl (placesA d qs.length).length kp,.map (some bm)] 134 (0,0))) bw 3 = some (.slice ph hs.length kh):=by rw [rdc_sng]; rfl
 have w4:rdc (sng bw (.cells #[.slice pq qs.length kq,.slice pc cs.length kc,.slice pb bs.length kb,.slice ph hs.length kh,int d.s,int d.d,int d.v,int d.r,int d.e,.slice pl (placesA d qs.length).length kp,.map (some bm)] 134 (0,0))) bw 4 = some (int d.s):=by rw [rdc_sng]; rfl
 have w5:rdc (sng bw (.cells #[.slice pq qs.length kq,.slice pc cs.length kc,.slice pb bs.length kb,.slice ph hs.length kh,int d.s,int d.d,int d.v,int d.r,int d.e,.slice pl (placesA d qs.length).length kp,.map (some bm)] 134 (0,0))) bw 5 = some (int d.d):=by rw [rdc_sng]; rfl
 have w6:rdc (sng bw (.cells #[.slice pq qs.length kq,.slice pc cs.length kc,.slice pb bs.length kb,.slice ph hs.length kh,int d.s,int d.d,int d.v,int d.r,int d.e,.slice pl (placesA d qs.length).length kp,.map (some bm)] 134 (0,0))) bw 6 = some (int d.v):=by rw [rdc_sng]; rfl
 have w7:rdc (sng bw (.cells #[.slice pq qs.length kq,.slice pc cs.length kc,.slice pb bs.length kb,.slice ph hs.length kh,int d.s,int d.d,int d.v,int d.r,int d.e,.slice pl (placesA d qs.length).length kp,.map (some bm)] 134 (0,0))) bw 7 = some (int d.r):=by rw [rdc_sng]; rfl
 have w8:rdc (sng bw (.cells #[.slice pq qs.length kq,.slice pc cs.length kc,.slice pb bs.length kb,.slice ph hs.length kh,int d.s,int d.d,int d.v,int d.r,int d.e,.slice pl (placesA d qs.length).length kp,.map (some bm)] 134 (0,0))) bw 8 = some (int d.e):=by rw [rdc_sng]; rfl
 have w9:rdc (sng bw (.cells #[.slice pq qs.length kq,.slice pc cs.length kc,.slice pb bs.length kb,.slice ph hs.length kh,int d.s,int d.d,int d.v,int d.r,int d.e,.slice pl (placesA d qs.length).length kp,.map (some bm)] 134 (0,0))) bw 9 = some (.slice pl (placesA d qs.length).length kp):=by rw [rdc_sng]; rfl
 have w10:rdc (sng bw (.cells #[.slice pq qs.length kq,.slice pc cs.length kc,.slice pb bs.length kb,.slice ph hs.length kh,int d.s,int d.d,int d.v,int d.r,int d.e,.slice pl (placesA d qs.length).length kp,.map (some bm)] 134 (0,0))) bw 10 = some (.map (some bm)):=by rw [rdc_sng]; rfl
 have hg:=graph_spec hT bw bm kp pl χ M d h h0 hpl hM
 refine AB ?_;refine AO ?_;refine AO ?_;refine AC ?_;refine AC ?_;refine AE ?_;refine AD ?_;refine AD ?_;refine AA ?_;refine AB ?_;refine BB ?_;refine AE ?_;refine AN rfl ?_;refine AL ?_;refine AD ?_;refine AA ?_;refine AB ?_;refine BW hg rfl rfl rdZ rfl rfl ?_;rintro _ σ1 ⟨u,rfl,hO1⟩
 have hu1:u.oneCell' = true:=by obtain ⟨_,_,rfl⟩:=hO1.form; rfl
 refine AW ?_; rintro _ _ ⟨rfl,rfl⟩;refine AC ?_;refine AE ?_
 exact AI (resSE (b1:=b4) (T:=69) (v1:=[int (vsN qs d),u,int (vtx d d.s d.r),int (vtx d d.d d.e)]) rfl rfl rfl rfl rfl (cells_own memZ)) rsubZ selZ ⟨σ1,by dsimp only; rw [if_pos hv]; exact ⟨u,rfl,hO1⟩,rfl⟩
end Go.Proofs.YtphehihohghfoaaGreat
/- Values of flows, capacities of cuts, equal lists: what the functions answer. -/
namespace Go.Proofs.YtphehihohghfoaaGreat
open Go.Eng Go.Flow
set_option maxRecDepth 100000
set_option maxHeartbeats 4000000

theorem value_spec (ρ σ:PH) (v u:Value) (s:Int) (l:List Arc) (fl:List Int) (hv:ArcsAt ρ v l) (hu:IntsAt σ u fl) (hl:l.length ≤ 20000) (hfl:fl.length = l.length) (hs:small fl) :
  Ans Tryz.prog (fv 88) [v,u,int s] [ρ,σ] (fun r=>r = int (fval s l fl)):=by
 obtain ⟨q,c,rfl,hr⟩:=hv.val encA_len
 obtain ⟨q2,c2,rfl,hr2⟩:=hu.val Eng.encI_len
 refine spec_in (cap:=[]) Tryz.func88 rfl rfl Tryz.ntmps88 rfl envZ (fun N β=>?_)
 refine AD ?_;refine AA ?_;refine AC ?_;refine AE ?_;refine AD ?_;refine AA ?_;refine AC ?_;refine AE ?_;refine AD ?_;refine AD ?_;refine AA ?_;refine AB ?_;refine AV ?_;refine AB ?_;refine AE ?_;refine AP ?_
 refine BD [0,1,2,10,11] ((0,0):Nat × Int) (fun x=>x.1 ≤ l.length ∧ x.2 = fval s (l.take x.1) (fl.take x.1)) (fun x=>[(7,int x.2),(12,int x.1)]) (fun _=>[]) (fun x=>l.length - x.1) pickZ ⟨by simp,by simp [fval]⟩ covZ selZ ?_
 rintro ⟨k,y⟩ ⟨hk,hy⟩;simp only at hk hy
 by_cases hlt:k < l.length
 ·have hx:=List.getElem?_eq_getElem hlt
  obtain ⟨b,o,rfl,hA,h0,h1,h2⟩:=arcRow hr hx
  have hx2:=List.getElem?_eq_getElem (show k < fl.length by omega)
  obtain ⟨b2,o2,rfl,g0⟩:=hr2.int hx2
  have hbd:=fval_bd s (l.take k) (fl.take k) (small_take hs k)
  have hlen:(fl.take k).length = k:=by simp; omega
  rw [← hy,hlen] at hbd
  have hx3:=hs fl[k] (List.getElem_mem _)
  have hstep:fval s (l.take (k + 1)) (fl.take (k + 1)) = y + ((if l[k].f = s then fl[k] else 0) - (if l[k].t = s then fl[k] else 0)):=by
   rw [take_snoc' hlt,take_snoc' (show k < fl.length by omega),fval_snoc _ _ _ _ _ (by simp; omega),hy]
  repeat' (first
   | (refine AB ?_)
   | (refine AC ?_)
   | (refine AF ?_)
   | (refine AG ?_)
   | (refine BS ?_)
   | (refine BA ?_)
   | (refine A9 ?_)
   | (refine BC ?_)
   | (refine CP ?_)
   | (refine CZ ?_)
   | (refine AT ?_)
   | (refine AD ?_)
   | (refine AA ?_)
   | (refine AE ?_)
   | (refine AP ?_)
   | (refine A4 ?_)
   | (refine AL ?_)
   | (refine AM rfl ?_)
   | (refine AN rfl ?_)
   | (refine AY ?_; rintro _ _ ⟨b,rfl,rfl⟩)
   | (refine AW ?_; rintro _ _ ⟨rfl,rfl⟩)
   | (focus ((refine B9 rfl rfl (cmp_eq _ _) rfl rfl (fun h=>?_) (fun h=>?_))))
   | fail)
  all_goals refine AX (k + 1,_) ⟨by simp only; omega,?_⟩ (by simp only; omega) covZ selZ
  all_goals simp only
  all_goals rw [hstep]
  all_goals (repeat (first | rw [if_pos (by assumption)] | rw [if_neg (by assumption)]))
  all_goals omega
 ·refine AD ?_
  refine AA ?_;refine AZ ?_;refine AE ?_;refine AD ?_;refine AN rfl ?_;refine A8 rfl ?_;refine AD ?_;refine AA ?_;refine AB ?_;refine AC ?_;refine AE ?_;refine AI (res1 rfl rfl) rsubZ selZ ⟨rfl,?_⟩
  rw [hy,List.take_of_length_le (by omega),List.take_of_length_le (by omega)]

theorem capacity_spec (ρ:PH) (v:Value) (n b cp:Nat) (T:TypeId) (l:List Arc) (m:List Bool) (hv:ArcsAt ρ v l) (hl:l.length ≤ 20000) (hok:∀ a ∈ l,okArc n a = true) (hm:m.length = n) :
  Ans Tryz.prog (fv 60) [v,.slice (some ⟨b,0,none⟩) n cp] [ρ,sng b (.cells (bools m) T (0,0))] (fun r=>r = int (capOf (fun j=>m.getD j false) l)):=by
 obtain ⟨q,c,rfl,hr⟩:=hv.val encA_len
 refine spec_in (cap:=[]) Tryz.func60 rfl rfl Tryz.ntmps60 rfl envZ (fun N β=>?_)
 refine AD ?_;refine AA ?_;refine AC ?_;refine AE ?_;refine AD ?_;refine AA ?_;refine AC ?_;refine AE ?_;refine AD ?_;refine AD ?_;refine AA ?_;refine AB ?_;refine AV ?_;refine AB ?_;refine AE ?_;refine AP ?_
 refine BD [0,1,8,9] ((0,0):Nat × Int) (fun x=>x.1 ≤ l.length ∧ x.2 = capOf (fun j=>m.getD j false) (l.take x.1)) (fun x=>[(5,int x.2),(10,int x.1)]) (fun _=>[]) (fun x=>l.length - x.1) pickZ ⟨by simp,by simp [capOf]⟩ covZ selZ ?_
 rintro ⟨k,y⟩ ⟨hk,hy⟩;simp only at hk hy
 by_cases hlt:k < l.length
 ·have hx:=List.getElem?_eq_getElem hlt
  obtain ⟨b',o,rfl,hA,h0,h1,h2⟩:=arcRow hr hx
  have hbd:=capOf_bd n (fun j=>m.getD j false) (l.take k) (fun a ha=>hok a (List.mem_of_mem_take ha))
  have hlen:(l.take k).length = k:=by simp; omega
  rw [← hy,hlen] at hbd
  obtain ⟨g1,g2,g3,g4,g5,g6,g7⟩:=okArc_iff.1 (hok l[k] (List.getElem_mem hlt))
  have hstep:capOf (fun j=>m.getD j false) (l.take (k + 1)) = y + (if m.getD l[k].f.toNat false = true ∧ m.getD l[k].t.toNat false = false then l[k].c else 0):=by
   rw [take_snoc' hlt,capOf_snoc,hy]
  obtain ⟨f,hf⟩:=Int.eq_ofNat_of_zero_le g1
  obtain ⟨t,ht⟩:=Int.eq_ofNat_of_zero_le g3
  rw [hf,ht] at hA hstep;rw [hf] at g2;rw [ht] at g4
  have e1:m[f]? = some (m.getD f false):=by
   have:f < m.length:=by omega
   simp [this]
  have e2:m[t]? = some (m.getD t false):=by
   have:t < m.length:=by omega
   simp [this]
  simp only [Int.toNat_natCast] at hstep
  cases c1:m.getD f false with
  | false =>
   rw [c1] at e1
   rw [if_neg (by rw [c1]; simp),Int.add_zero] at hstep
   refine AD ?_;refine AA ?_;refine BC ?_;refine AE ?_;refine AD ?_;refine AM rfl ?_;refine AL ?_;refine AD ?_;refine AP ?_;refine AD ?_;refine AA ?_;refine BA ?_;refine AT ?_;refine AY ?_; rintro _ _ ⟨b,rfl,rfl⟩;refine AW ?_; rintro _ _ ⟨rfl,rfl⟩;refine AE ?_;refine AD ?_;refine AA ?_;refine AB ?_;refine AG ?_;refine AF ?_;refine BQ ?_;refine AF ?_;refine AB ?_;refine AH rfl rfl rfl ?_;refine AH rfl rfl rfl ?_;refine AH rfl rfl rfl ?_;refine AH rfl rfl rfl ?_;refine AH rfl rfl rfl ?_;refine AH rfl rfl rfl ?_;refine AJ ?_;refine AE ?_;refine AN rfl ?_;refine AL ?_;refine A4 ?_;refine AA ?_;refine A9 ?_;refine AB ?_;refine AE ?_
   exact AX (k + 1,_) ⟨by simp only; omega,hstep.symm⟩ (by simp only; omega) covZ selZ
  | true =>
   rw [c1] at e1
   cases c2:m.getD t false with
   | false =>
    rw [c2] at e2;rw [if_pos ⟨c1,c2⟩] at hstep;refine AD ?_;refine AA ?_;refine BC ?_;refine AE ?_;refine AD ?_;refine AM rfl ?_;refine AL ?_;refine AD ?_;refine AP ?_;refine AD ?_;refine AA ?_;refine BA ?_;refine AT ?_;refine AY ?_; rintro _ _ ⟨b,rfl,rfl⟩;refine AW ?_; rintro _ _ ⟨rfl,rfl⟩;refine AE ?_;refine AD ?_;refine AA ?_;refine AB ?_;refine AG ?_;refine AF ?_;refine BQ ?_;refine AF ?_;refine AB ?_;refine AB ?_;refine AG ?_;refine AF ?_;refine BQ ?_;refine AF ?_;refine BB ?_;refine AK ?_;refine AE ?_;refine AM rfl ?_;refine AA ?_;refine AB ?_;refine AG ?_;refine AF ?_;refine CP ?_;refine AC ?_;refine AE ?_;refine A4 ?_;refine AA ?_;refine A9 ?_;refine AB ?_;refine AE ?_
    exact AX (k + 1,_) ⟨by simp only; omega,hstep.symm⟩ (by simp only; omega) covZ selZ
   | true =>
    rw [c2] at e2
    rw [if_neg (by rw [c2]; simp),Int.add_zero] at hstep
    refine AD ?_;refine AA ?_;refine BC ?_;refine AE ?_;refine AD ?_;refine AM rfl ?_;refine AL ?_;refine AD ?_;refine AP ?_;refine AD ?_;refine AA ?_;refine BA ?_;refine AT ?_;refine AY ?_; rintro _ _ ⟨b,rfl,rfl⟩;refine AW ?_; rintro _ _ ⟨rfl,rfl⟩;refine AE ?_;refine AD ?_;refine AA ?_;refine AB ?_;refine AG ?_;refine AF ?_;refine BQ ?_;refine AF ?_;refine AB ?_;refine AB ?_;refine AG ?_;refine AF ?_;refine BQ ?_;refine AF ?_;refine BB ?_;refine AK ?_;refine AE ?_;refine AN rfl ?_;refine AL ?_;refine A4 ?_;refine AA ?_;refine A9 ?_;refine AB ?_;refine AE ?_
    exact AX (k + 1,_) ⟨by simp only; omega,hstep.symm⟩ (by simp only; omega) covZ selZ
 ·refine AD ?_
  refine AA ?_;refine AZ ?_;refine AE ?_;refine AD ?_;refine AN rfl ?_;refine A8 rfl ?_;refine AD ?_;refine AA ?_;refine AB ?_;refine AC ?_;refine AE ?_;refine AI (res1 rfl rfl) rsubZ selZ ⟨rfl,?_⟩
  rw [hy,List.take_of_length_le (by omega)]

end Go.Proofs.YtphehihohghfoaaGreat
/- Capacity and Value, of the program and of the reference. -/
namespace Go.Proofs.YtphehihohghfoaaGreat
open Go.Eng Go.Flow
set_option maxRecDepth 100000
set_option maxHeartbeats 4000000

theorem capFun_eq (n:Nat) (side:List Int) (l:List Arc) (hok:∀ a ∈ l,okArc n a = true):capOf (fun j=>(marksOf n side).getD j false) l = capOf (fun j=>decide ((j:Int) ∈ side)) l:=by
 induction l with
 | nil=>rfl
 | cons a l ih =>
  obtain ⟨g1,g2,g3,g4,g5,g6,g7⟩:=okArc_iff.1 (hok a (by simp))
  simp only [capOf]
  rw [ih (fun b hb=>hok b (by simp [hb]))]
  have e1:(marksOf n side).getD a.f.toNat false = decide ((a.f.toNat:Int) ∈ side):=by
   rw [List.getD_eq_getElem?_getD,marksOf_get (by omega)]; rfl
  have e2:(marksOf n side).getD a.t.toNat false = decide ((a.t.toNat:Int) ∈ side):=by
   rw [List.getD_eq_getElem?_getD,marksOf_get (by omega)]; rfl
  simp only [e1,e2]

theorem flowCapacity_spec (ρ σ:PH) (v u:Value) (n:Int) (l:List Arc) (side:List Int) (hv:ArcsAt ρ v l) (hu:IntsAt σ u side) (hl:l.length ≤ 1000000) (hm:side.length ≤ 1000000) :
  Ans Tryz.prog (fv 44) [int n,v,u] [ρ,σ] (fun r=>r = .tuple #[int (capacitySpec n l side).1,int (capacitySpec n l side).2]):=by
 obtain ⟨q2,c2,rfl,hr2⟩:=hu.val Eng.encI_len
 refine spec_in (cap:=[]) Tryz.func44 rfl rfl Tryz.ntmps44 rfl envZ (fun N β=>?_)
 refine AD ?_;refine AA ?_;refine AC ?_;refine AC ?_;refine AE ?_;refine AD ?_;refine AD ?_;refine AA ?_;refine AB ?_;refine AB ?_
 focus ((refine A2 (check_spec ρ v n l hv hl) rfl rfl rdZ rfl rfl ?_; rintro _ rfl))
 refine AC ?_;refine AE ?_;refine AD ?_;refine AA ?_;refine AB ?_
 by_cases hc:chk n l = 0
 rotate_left
 ·refine CG ?_
  refine AE ?_;refine AM rfl ?_;refine AD ?_;refine AA ?_;refine AB ?_;refine AC ?_;refine AC ?_;refine AE ?_;refine AI (res2 rfl rfl rfl) rsubZ selZ ⟨rfl,?_⟩;unfold capacitySpec; rw [if_pos hc]
 obtain ⟨a1,a2,a3,hok⟩:=chk_ok hc
 obtain ⟨n,rfl⟩:=Int.eq_ofNat_of_zero_le a1
 refine BG ?_;refine AE ?_;refine AN rfl ?_;refine AL ?_;refine AD ?_;refine AA ?_;refine AB ?_;refine E6 ?_; rintro _ _ ⟨b,rfl,rfl⟩;refine AC ?_;refine AE ?_;refine AD ?_;refine AD ?_;refine AA ?_;refine AB ?_;refine AV ?_;refine AB ?_;refine AE ?_;refine AP ?_;rw [← marksOf_nil]
 refine BD [0,1,2,9,20,21] (0:Nat) (fun k=>k ≤ side.length ∧ sideChk n none side = sideChk n (prevAt side k) (side.drop k)) (fun k=>[(22,int k)]) (fun k=>[sng b (.cells (bools (marksOf n (side.take k))) 4 (0,0))]) (fun k=>side.length - k) pickZ ⟨by omega,by simp [prevAt]⟩ covZ selZ ?_
 rintro k ⟨hk,hy⟩
 have hml:=marksOf_len n (side.take k)
 by_cases hlt:k < side.length
 ·obtain ⟨b2,o2,rfl,g1⟩:=hr2.int (List.getElem?_eq_getElem hlt)
  have g2:1 ≤ k → rdc σ b2 (o2 + (k - 1)) = some (int side[k - 1]):=fun h=>by
   obtain ⟨b3,o3,e,g⟩:=hr2.int (List.getElem?_eq_getElem (show k - 1 < side.length by omega))
   simp only [Option.some.injEq,Addr.mk.injEq,and_true] at e;rw [e.1,e.2]; exact g
  have hin:0 ≤ side[k] ∧ side[k] < (n:Int) ∨ side[k] < 0 ∨ (n:Int) ≤ side[k]:=by omega
  rcases hin with hin | hin
  ·have hpv:k = 0 ∨ (1 ≤ k ∧ side[k] ≤ side[k - 1]) ∨ (1 ≤ k ∧ side[k - 1] < side[k]):=by omega
   have hpa:1 ≤ k → prevAt side k = some side[k - 1]:=fun h=>by
    obtain ⟨j,rfl⟩:∃ j,k = j + 1:=⟨k - 1,by omega⟩
    simp [prevAt]
   obtain ⟨x,hx⟩:=Int.eq_ofNat_of_zero_le hin.1
   rcases hpv with rfl | ⟨h1,h2⟩ | ⟨h1,h2⟩
   ·have hst:=sideChk_step (n:=n) hlt hin.1 hin.2 (by simp [prevAt])
    rw [hx] at g1 hin;refine AD ?_;refine AA ?_;refine BC ?_;refine AE ?_;refine AD ?_;refine AM rfl ?_;refine AL ?_;refine AD ?_;refine AP ?_;refine AD ?_;refine AA ?_;refine AB ?_;refine BS ?_;refine AF ?_;refine AC ?_;refine AC ?_;refine AE ?_;refine AD ?_;refine AD ?_;refine AA ?_;refine AB ?_;refine AB ?_
    focus ((refine A2 (inside_spec _ _) rfl rfl rdZ rfl rfl ?_; rintro v (⟨rfl,h⟩ | ⟨rfl,h⟩); rotate_left; (focus (exfalso; omega))))
    refine BB ?_;refine AE ?_;refine AN rfl ?_;refine AL ?_;refine AD ?_;refine AD ?_;refine AA ?_;refine AB ?_;refine BX ?_;refine AB ?_;refine AH rfl rfl rfl ?_;refine AH rfl rfl rfl ?_;refine AH rfl rfl rfl ?_;refine AH rfl rfl rfl ?_;refine AH rfl rfl rfl ?_;refine AH rfl rfl rfl ?_;refine AH rfl rfl rfl ?_;refine AJ ?_;refine AE ?_;refine AN rfl ?_;refine AL ?_;refine AA ?_;refine AB ?_;refine AB ?_;refine BQ ?_;refine DA ?_; rintro _ _ ⟨rfl,rfl⟩;refine AE ?_;refine A4 ?_;refine AA ?_;refine A9 ?_;refine AB ?_;refine AE ?_
    refine AX 1 ⟨by omega,by rw [hy,hst]⟩ (by omega) covZ ?_
    rw [take_snoc' hlt,hx,marksOf_snoc];exact selZ
   ·have hst:=sideChk_nine (n:=n) hlt hin.1 hin.2 (hpa h1) h2
    have hcs:capacitySpec n l side = (0,9):=by
     unfold capacitySpec
     rw [if_neg (by rw [hc]; simp),hy,hst,if_pos (by simp)]
    have g3:=g2 h1
    rw [hx] at g1 hin h2;refine AD ?_;refine AA ?_;refine BC ?_;refine AE ?_;refine AD ?_;refine AM rfl ?_;refine AL ?_;refine AD ?_;refine AP ?_;refine AD ?_;refine AA ?_;refine AB ?_;refine BS ?_;refine AF ?_;refine AC ?_;refine AC ?_;refine AE ?_;refine AD ?_;refine AD ?_;refine AA ?_;refine AB ?_;refine AB ?_
    focus ((refine A2 (inside_spec _ _) rfl rfl rdZ rfl rfl ?_; rintro v (⟨rfl,h⟩ | ⟨rfl,h⟩); rotate_left; (focus (exfalso; omega))))
    refine BB ?_;refine AE ?_;refine AN rfl ?_;refine AL ?_;refine AD ?_;refine AD ?_;refine AA ?_;refine AB ?_;refine CJ ?_;refine AB ?_;refine AB ?_;refine AB ?_;refine AB ?_;refine DI ?_;refine BS ?_;refine AF ?_;refine CL ?_;refine AK ?_;refine AE ?_;refine AM rfl ?_;refine AD ?_;refine AA ?_;refine AC ?_;refine AC ?_;refine AE ?_
    exact AI (res2 rfl rfl rfl) rsubZ selZ ⟨rfl,by rw [hcs]⟩
   ·have hst:=sideChk_step (n:=n) hlt hin.1 hin.2 (fun p hp=>by rw [hpa h1] at hp; simp at hp; omega)
    have g3:=g2 h1
    rw [hx] at g1 hin h2;refine AD ?_;refine AA ?_;refine BC ?_;refine AE ?_;refine AD ?_;refine AM rfl ?_;refine AL ?_;refine AD ?_;refine AP ?_;refine AD ?_;refine AA ?_;refine AB ?_;refine BS ?_;refine AF ?_;refine AC ?_;refine AC ?_;refine AE ?_;refine AD ?_;refine AD ?_;refine AA ?_;refine AB ?_;refine AB ?_
    focus ((refine A2 (inside_spec _ _) rfl rfl rdZ rfl rfl ?_; rintro v (⟨rfl,h⟩ | ⟨rfl,h⟩); rotate_left; (focus (exfalso; omega))))
    refine BB ?_;refine AE ?_;refine AN rfl ?_;refine AL ?_;refine AD ?_;refine AD ?_;refine AA ?_;refine AB ?_;refine CJ ?_;refine AB ?_;refine AB ?_;refine AB ?_;refine AB ?_;refine DI ?_;refine BS ?_;refine AF ?_;refine CO ?_;refine AK ?_;refine AE ?_;refine AN rfl ?_;refine AL ?_;refine AA ?_;refine AB ?_;refine AB ?_;refine BQ ?_;refine DA ?_; rintro _ _ ⟨rfl,rfl⟩;refine AE ?_;refine A4 ?_;refine AA ?_;refine A9 ?_;refine AB ?_;refine AE ?_
    refine AX (k + 1) ⟨by omega,by rw [hy,hst]⟩ (by omega) covZ ?_
    rw [take_snoc' hlt,hx,marksOf_snoc];exact selZ
  ·have hst:=sideChk_two (n:=n) (prevAt side k) hlt hin
   have hcs:capacitySpec n l side = (0,2):=by
    unfold capacitySpec
    rw [if_neg (by rw [hc]; simp),hy,hst,if_pos (by simp)]
   refine AD ?_;refine AA ?_;refine BC ?_;refine AE ?_;refine AD ?_;refine AM rfl ?_;refine AL ?_;refine AD ?_;refine AP ?_;refine AD ?_;refine AA ?_;refine AB ?_;refine BS ?_;refine AF ?_;refine AC ?_;refine AC ?_;refine AE ?_;refine AD ?_;refine AD ?_;refine AA ?_;refine AB ?_;refine AB ?_
   focus ((refine A2 (inside_spec _ _) rfl rfl rdZ rfl rfl ?_; rintro v (⟨rfl,h⟩ | ⟨rfl,h⟩); (focus (exfalso; omega))))
   refine BB ?_;refine AE ?_;refine AM rfl ?_;refine AD ?_;refine AA ?_;refine AC ?_;refine AC ?_;refine AE ?_
   exact AI (res2 rfl rfl rfl) rsubZ selZ ⟨rfl,by rw [hcs]⟩
 ·obtain rfl:k = side.length:=by omega
  rw [List.take_length] at hml;rw [List.take_length];refine AD ?_;refine AA ?_;refine AZ ?_;refine AE ?_;refine AD ?_;refine AN rfl ?_;refine A8 rfl ?_;refine AD ?_;refine AA ?_;refine AB ?_;refine AB ?_
  focus ((refine A2 (capacity_spec ρ v n b n 4 l (marksOf n side) hv (by omega) hok hml) rfl rfl rdZ rfl rfl ?_; rintro _ rfl))
  refine AC ?_;refine AC ?_;refine AE ?_;refine AI (res2 rfl rfl rfl) rsubZ selZ ⟨rfl,?_⟩;unfold capacitySpec
  rw [if_neg (by rw [hc]; simp),hy,List.drop_length]
  rw [if_neg (by simp [sideChk]),capFun_eq n side l hok]

end Go.Proofs.YtphehihohghfoaaGreat
/- Value, of the program and of the reference. -/
namespace Go.Proofs.YtphehihohghfoaaGreat
open Go.Eng Go.Flow
set_option maxRecDepth 100000
set_option maxHeartbeats 4000000

theorem balanced_of {n:Nat} {l:List Arc} {fl:List Int} {s t:Int} (h:∀ v:Nat,v < n → (v:Int) = s ∨ (v:Int) = t ∨ fval v l fl = 0):balanced n l fl s t = true:=by
 unfold balanced;rw [List.all_eq_true]
 intro v hv
 rw [decide_eq_true_eq]
 exact h v (by simpa using hv)
theorem balanced_not {n:Nat} {l:List Arc} {fl:List Int} {s t:Int} {v:Nat} (hv:v < n) (h1:(v:Int) ≠ s) (h2:(v:Int) ≠ t) (h3:fval v l fl ≠ 0):balanced n l fl s t = false:=by
 cases h:balanced n l fl s t with
 | false=>rfl
 | true =>
  unfold balanced at h;rw [List.all_eq_true] at h
  have:=h v (by simpa using hv)
  rw [decide_eq_true_eq] at this
  exact absurd this (by simp [h1,h2,h3])
theorem inCap_take_false {l:List Arc} {fl:List Int} {k:Nat} (hk:k < l.length) (hfl:fl.length = l.length) (h:¬ (0 ≤ fl[k] ∧ fl[k] ≤ l[k].c)):inCap l fl = false:=by
 cases hc:inCap l fl with
 | false=>rfl
 | true=>exact absurd (inCap_get l fl hc k l[k] fl[k] (List.getElem?_eq_getElem hk) (List.getElem?_eq_getElem (by omega))) h

theorem flowValue_spec (ρ σ:PH) (v u:Value) (n s t:Int) (l:List Arc) (fl:List Int) (hv:ArcsAt ρ v l) (hu:IntsAt σ u fl) (hl:l.length ≤ 1000000) :
    Ans Tryz.prog (fv 64) [int n,v,u,int s,int t] [ρ,σ] (fun r=>r = .tuple #[int (valueSpec n l fl s t).1,int (valueSpec n l fl s t).2]):=by
  obtain ⟨q,c,rfl,hr⟩:=hv.val encA_len
  obtain ⟨q2,c2,rfl,hr2⟩:=hu.val Eng.encI_len
  refine spec_in (cap:=[]) Tryz.func64 rfl rfl Tryz.ntmps64 rfl envZ (fun N β=>?_)
  refine AD ?_;refine AA ?_;refine AC ?_;refine AC ?_;refine AE ?_;refine AD ?_;refine AD ?_;refine AA ?_;refine AB ?_;refine AB ?_
  focus ((refine A2 (check_spec ρ _ n l hv hl) rfl rfl rdZ rfl rfl ?_; rintro _ rfl))
  refine AC ?_;refine AE ?_;refine AD ?_;refine AA ?_;refine AB ?_
  by_cases hc:chk n l = 0
  rotate_left
  · refine CG ?_
    refine AE ?_;refine AM rfl ?_;refine AD ?_;refine AA ?_;refine AB ?_;refine AC ?_;refine AC ?_;refine AE ?_;refine AI (res2 rfl rfl rfl) rsubZ selZ ⟨rfl,?_⟩;unfold valueSpec; rw [if_pos hc]
  obtain ⟨a1,a2,a3,hok⟩:=chk_ok hc
  obtain ⟨n,rfl⟩:=Int.eq_ofNat_of_zero_le a1
  by_cases he:okEnds n s t = true
  rotate_left
  · have he':okEnds n s t = false:=by simpa using he
    refine BG ?_;refine AE ?_;refine AN rfl ?_;refine AL ?_;refine AD ?_;refine AD ?_;refine AA ?_;refine AB ?_;refine AB ?_;refine AB ?_
    focus ((refine A2 (ends_spec n s t) rfl rfl rdZ rfl rfl ?_; rintro _ rfl; rw [he',if_neg (by simp)]))
    refine AC ?_;refine AE ?_;refine AD ?_;refine AA ?_;refine AB ?_;refine CG ?_;refine AE ?_;refine AM rfl ?_;refine AD ?_;refine AA ?_;refine AB ?_;refine AC ?_;refine AC ?_;refine AE ?_;refine AI (res2 rfl rfl rfl) rsubZ selZ ⟨rfl,?_⟩
    unfold valueSpec; rw [if_neg (by rw [hc]; simp),if_pos he']
  obtain ⟨s1,s2,t1,t2,st⟩:=okEnds_iff.1 he
  refine BG ?_;refine AE ?_;refine AN rfl ?_;refine AL ?_;refine AD ?_;refine AD ?_;refine AA ?_;refine AB ?_;refine AB ?_;refine AB ?_
  focus ((refine A2 (ends_spec n s t) rfl rfl rdZ rfl rfl ?_; rintro _ rfl; rw [he,if_pos rfl]))
  refine AC ?_;refine AE ?_;refine AD ?_;refine AA ?_;refine AB ?_;refine BG ?_;refine AE ?_;refine AN rfl ?_;refine AL ?_;refine AD ?_;refine AD ?_;refine AA ?_;refine AB ?_;refine AV ?_;refine AB ?_;refine AV ?_
  by_cases hfl:fl.length = l.length
  rotate_left
  · refine CG ?_
    refine AE ?_;refine AM rfl ?_;refine AD ?_;refine AA ?_;refine AC ?_;refine AC ?_;refine AE ?_;refine AI (res2 rfl rfl rfl) rsubZ selZ ⟨rfl,?_⟩
    unfold valueSpec; rw [if_neg (by rw [hc]; simp),if_neg (by rw [he]; simp),if_pos hfl]
  refine BG ?_;refine AE ?_;refine AN rfl ?_;refine AL ?_;refine AD ?_;refine AA ?_;refine AB ?_;refine DO ?_; rintro _ _ ⟨b,rfl,rfl⟩;refine AC ?_;refine AE ?_;refine AD ?_;refine AD ?_;refine AA ?_;refine AB ?_;refine AV ?_;refine AB ?_;refine AE ?_;refine AP ?_
  rw [show List.replicate n (0:Int) = negL (netL n [] []) from by rw [netL_nil]; simp [negL]]
  refine BD [0,1,2,3,4,14,39,40] (0:Nat) (fun k=>k ≤ l.length ∧ inCap (l.take k) (fl.take k) = true) (fun k=>[(41,int k)]) (fun k=>[sng b (.cells (ints (negL (netL n (l.take k) (fl.take k)))) 3 (0,0))]) (fun k=>l.length - k) pickZ ⟨by omega,by simp [inCap]⟩ covZ selZ ?_
  rintro k ⟨hk,hy⟩
  by_cases hlt:k < l.length
  · have hltf:k < fl.length:=by omega
    obtain ⟨b',o,rfl,hA,h0,h1,h2⟩:=arcRow hr (List.getElem?_eq_getElem hlt)
    obtain ⟨b2,o2,rfl,f0⟩:=hr2.int (List.getElem?_eq_getElem hltf)
    obtain ⟨g1,g2,g3,g4,g5,g6,g7⟩:=okArc_iff.1 (hok l[k] (List.getElem_mem hlt))
    by_cases hin:0 ≤ fl[k] ∧ fl[k] ≤ l[k].c
    rotate_left
    · have hvs:valueSpec n l fl s t = (0,2):=by
        unfold valueSpec
        rw [if_neg (by rw [hc]; simp),if_neg (by rw [he]; simp),if_neg (by simpa using hfl),if_pos (inCap_take_false hlt hfl hin)]
      rcases (show fl[k] < 0 ∨ (0 ≤ fl[k] ∧ l[k].c < fl[k]) by omega) with hin' | hin'
      all_goals
        refine AD ?_;refine AA ?_;refine BC ?_;refine AE ?_;refine AD ?_;refine AM rfl ?_;refine AL ?_;refine AD ?_;refine AP ?_;refine AD ?_;refine AA ?_;refine AB ?_;refine BA ?_;refine AT ?_;refine AY ?_; rintro _ _ ⟨b,rfl,rfl⟩;refine AC ?_;refine AW ?_; rintro _ _ ⟨rfl,rfl⟩;refine AE ?_;refine AD ?_;refine AD ?_
        refine A5 (.q 0 (.q 1 (.q 2 (.q 3 (.q 4 (.q 5 (.q 6 (.q 7 (.q 8 (.q 9 (.q 10 (.q 11 (.q 12 (.q 13 .nil)))))))))))))) [] rfl (by kernel_rfl) selZ ?_
        repeat' (first
          | (refine AR ?_)
          | (refine AQ ?_)
          | (refine AU ?_)
          | (refine CY ?_)
          | (refine BY ?_)
          | (refine B0 ?_)
          | (refine E9 ?_)
          | (refine DW ?_)
          | (refine D5 ?_)
          | (refine A3 rfl rfl rfl rfl rfl ?_)
          | (refine A6 ?_)
          | fail)
        refine AM rfl ?_;refine AD ?_;refine AA ?_;refine AC ?_;refine AC ?_;refine AE ?_
        exact AI (res2 rfl rfl rfl) rsubZ selZ ⟨rfl,by rw [hvs]⟩
    obtain ⟨f,hf⟩:=Int.eq_ofNat_of_zero_le g1
    obtain ⟨t',ht⟩:=Int.eq_ofNat_of_zero_le g3
    rw [hf,ht] at hA g5;rw [hf] at g2;rw [ht] at g4
    have hst:(l.take k).length = (fl.take k).length:=by simp; omega
    have hlen:(fl.take k).length = k:=by simp; omega
    have hnet:=netL_snoc (n:=n) (l:=l.take k) (fl:=fl.take k) (a:=l[k]) (x:=fl[k]) hst hf ht (by omega)
    rw [← take_snoc' hlt,← take_snoc' hltf] at hnet
    have hsm:small (fl.take k):=inCap_small _ _ hst hy (fun a ha=>hok a (List.mem_of_mem_take ha))
    have b1:=fval_bd f (l.take k) (fl.take k) hsm
    have b2':=fval_bd t' (l.take k) (fl.take k) hsm
    rw [hlen] at b1 b2'
    generalize hE:negL (netL n (l.take k) (fl.take k)) = E
    have hEl:E.length = n:=by rw [← hE,negL_len,netL_len]
    have e1:E.getD f 0 = -(fval f (l.take k) (fl.take k)):=by rw [← hE,negL_get (by rw [netL_len]; omega),netL_get (by omega)]
    have e2:E.getD t' 0 = -(fval t' (l.take k) (fl.take k)):=by rw [← hE,negL_get (by rw [netL_len]; omega),netL_get (by omega)]
    have e3:(E.set f (E.getD f 0 - fl[k])).getD t' 0 = E.getD t' 0:=by
      rw [List.getD_eq_getElem?_getD,List.getElem?_set_ne (by omega),← List.getD_eq_getElem?_getD]
    have e4:(E.set f (E.getD f 0 - fl[k])).length = n:=by simp [hEl]
    refine AD ?_;refine AA ?_;refine BC ?_;refine AE ?_;refine AD ?_;refine AM rfl ?_;refine AL ?_;refine AD ?_;refine AP ?_;refine AD ?_;refine AA ?_;refine AB ?_;refine BA ?_;refine AT ?_;refine AY ?_; rintro _ _ ⟨b,rfl,rfl⟩;refine AC ?_;refine AW ?_; rintro _ _ ⟨rfl,rfl⟩;refine AE ?_;refine AD ?_;refine AD ?_
    refine A5 (.q 0 (.q 1 (.q 2 (.q 3 (.q 4 (.q 5 (.q 6 (.q 7 (.q 8 (.q 9 (.q 10 (.q 11 (.q 12 (.q 13 .nil)))))))))))))) [] rfl (by kernel_rfl) selZ ?_
    refine AR ?_;refine AR ?_;refine CY ?_;refine AQ ?_;refine DW ?_;refine AR ?_;refine AR ?_;refine AR ?_;refine CY ?_;refine AQ ?_;refine AU ?_;refine AQ ?_;refine DK ?_;refine B0 ?_;refine A6 ?_;refine AN rfl ?_;refine AL ?_;refine AD ?_
    refine A5 (.q 0 (.q 1 (.q 2 (.q 3 (.q 4 (.q 5 (.q 6 (.q 7 (.q 8 (.q 9 (.q 10 (.l 11 .b .nil)))))))))))) [] rfl (by kernel_rfl) selZ ?_
    refine AR ?_;refine AU ?_;refine AQ ?_;refine CB ?_;refine AQ ?_;refine AR ?_;refine AR ?_;refine CY ?_;refine AQ ?_;refine E0 ?_;refine CB ?_;refine DX ?_; rintro _ _ ⟨rfl,rfl⟩;refine A6 ?_
    skip
    refine A5 (.q 0 (.q 1 (.q 2 (.q 3 (.q 4 (.q 5 (.q 6 (.q 7 (.q 8 (.q 9 (.q 10 (.l 11 .b .nil)))))))))))) [] rfl (by kernel_rfl) selZ ?_
    refine AR ?_;refine AU ?_;refine AQ ?_;refine CB ?_;refine AQ ?_;refine AR ?_;refine AR ?_;refine CY ?_;refine AQ ?_;refine C6 ?_;refine CB ?_;refine DX ?_; rintro _ _ ⟨rfl,rfl⟩;refine A6 ?_;refine A4 ?_;refine AA ?_;refine A9 ?_;refine AB ?_;refine AE ?_
    refine AX (k + 1) ⟨by omega,?_⟩ (by omega) covZ ?_
    · rw [take_snoc' hlt,take_snoc' hltf,inCap_snoc _ _ _ _ hst,hy]
      simp; omega
    · rw [hnet,negL_set,negL_set,hE]
      rw [show -(fval f (l.take k) (fl.take k) + fl[k]) = E.getD f 0 - fl[k] from by omega]
      rw [show -(fval t' (l.take k) (fl.take k) - fl[k]) = (E.set f (E.getD f 0 - fl[k])).getD t' 0 + fl[k] from by rw [e3]; omega]
      exact selZ
  obtain rfl:k = l.length:=by omega
  rw [List.take_length,List.take_of_length_le (by omega)] at hy
  rw [List.take_length,List.take_of_length_le (by omega)]
  have hsm:small fl:=inCap_small _ _ hfl.symm hy hok
  generalize hE:negL (netL n l fl) = E
  have hEl:E.length = n:=by rw [← hE,negL_len,netL_len]
  refine AD ?_;refine AA ?_;refine AZ ?_;refine AE ?_;refine AD ?_;refine AN rfl ?_;refine A8 rfl ?_;refine AD ?_;refine AD ?_;refine AA ?_;refine AB ?_;refine AV ?_;refine AB ?_;refine AE ?_;refine AP ?_
  refine BD [1,2,3,4,83,84] (0:Nat) (fun k=>k ≤ n ∧ ∀ v:Nat,v < k → (v:Int) = s ∨ (v:Int) = t ∨ fval v l fl = 0) (fun k=>[(85,int k)]) (fun _=>[sng b (.cells (ints E) 3 (0,0))]) (fun k=>n - k) pickZ ⟨by omega,by simp⟩ covZ selZ ?_
  rintro k ⟨hk,hz⟩
  by_cases hlt:k < n
  · have e1:E.getD k 0 = -(fval k l fl):=by rw [← hE,negL_get (by rw [netL_len]; omega),netL_get (by omega)]
    repeat' (first
      | (refine AB ?_)
      | (refine AC ?_)
      | (refine AF ?_)
      | (refine BQ ?_)
      | (refine AK ?_)
      | (refine AJ ?_)
      | (refine A9 ?_)
      | (refine BC ?_)
      | (refine AD ?_)
      | (refine AA ?_)
      | (refine AE ?_)
      | (refine AP ?_)
      | (refine A4 ?_)
      | (refine AL ?_)
      | (refine AM rfl ?_)
      | (refine AN rfl ?_)
      | (refine AH rfl rfl rfl ?_)
      | (focus ((refine B9 rfl rfl (cmp_ne _ _) rfl rfl (fun h=>?_) (fun h=>?_))))
      | fail)
    all_goals first
      | (refine AX (k + 1) ⟨by omega,fun v hv=>?_⟩ (by omega) covZ selZ
         rcases Nat.lt_or_ge v k with hv' | hv'
         · exact hz v hv'
         · obtain rfl:v = k:=by omega
           omega)
      | (refine AI (res2 rfl rfl rfl) rsubZ selZ ⟨rfl,?_⟩
         have hb:=balanced_not (l:=l) (fl:=fl) (s:=s) (t:=t) hlt (by omega) (by omega) (by omega)
         unfold valueSpec
         rw [if_neg (by rw [hc]; simp),if_neg (by rw [he]; simp),if_neg (by simpa using hfl),if_neg (by rw [hy]; simp),Int.toNat_natCast,if_pos hb])
  · refine AD ?_
    refine AA ?_;refine AZ ?_;refine AE ?_;refine AD ?_;refine AN rfl ?_;refine A8 rfl ?_;refine AD ?_;refine AA ?_;refine AB ?_;refine AB ?_;refine AB ?_
    focus ((refine A2 (value_spec ρ σ _ _ s l fl hv hu a3 hfl hsm) rfl rfl rdZ rfl rfl ?_; rintro _ rfl))
    refine AC ?_;refine AC ?_;refine AE ?_;refine AI (res2 rfl rfl rfl) rsubZ selZ ⟨rfl,?_⟩
    have hb:=balanced_of (n:=n) (l:=l) (fl:=fl) (s:=s) (t:=t) (fun v hv=>hz v (by omega))
    unfold valueSpec
    rw [if_neg (by rw [hc]; simp),if_neg (by rw [he]; simp),if_neg (by simpa using hfl),if_neg (by rw [hy]; simp),Int.toNat_natCast,if_neg (by rw [hb]; simp)]

end Go.Proofs.YtphehihohghfoaaGreat
/- Flows of time-expanded networks, and stocks. No program in sight. No conditions. -/
namespace Go.Step
open Go.Flow (Flw fval netB netB_eq inCap sumTo sumTo_zero sumTo_one okArc_iff)
def shipsF:List EA → List Int → List Sh
  | x :: L,y :: fl=>(if 0 ≤ x.c ∧ 0 < y then [⟨x.c,x.t,y⟩] else []) ++ shipsF L fl
  | _,_=>[]
section
variable {qs:List Int} {cs:List Ct} {bs:List Bk} {hs:List Hd} {d:Dm}
def bq (d:Dm) (P:Int → Int → Bool) (v:Nat):Bool:=P ((v:Int) / wd d) (d.r + (v:Int) % wd d)
theorem bq_vtx {d:Dm} {P:Int → Int → Bool} {n t:Int} (h0:0 ≤ n) (h1:d.r ≤ t) (h2:t ≤ d.e):bq d P (vtx d n t).toNat = P n t:=by
  have hp:0 ≤ vtx d n t:=by
    unfold vtx
    have:=Int.mul_nonneg h0 (show 0 ≤ wd d by unfold wd; omega)
    omega
  unfold bq;rw [Int.toNat_of_nonneg hp,vtx_div h1 h2,vtx_mod h1 h2]
  congr 1
  omega
end
end Go.Step
/- The paths of a flow; greater capacities; arcs turned round. No program in sight. No conditions. -/
namespace Go.Flow
def plFrom:Nat → List Arc → List Lk
  | _,[]=>[]
  | i,a :: l=>⟨i,a.f.toNat,a.t.toNat⟩ :: plFrom (i + 1) l
def plinks (l:List Arc):List Lk:=plFrom 0 l
theorem plFrom_snoc (a:Arc):∀ (l:List Arc) (i:Nat),plFrom i (l ++ [a]) = plFrom i l ++ [(⟨i + l.length,a.f.toNat,a.t.toNat⟩:Lk)]
  | [],i=>by simp [plFrom]
  | b :: l,i=>by
    simp only [List.cons_append,plFrom];rw [plFrom_snoc a l (i + 1)];simp only [List.length_cons]
    rw [show i + 1 + l.length = i + (l.length + 1) from by omega]
theorem plinks_snoc (l:List Arc) (a:Arc):plinks (l ++ [a]) = plinks l ++ [(⟨l.length,a.f.toNat,a.t.toNat⟩:Lk)]:=by
  unfold plinks; rw [plFrom_snoc]; simp
theorem plFrom_len:∀ (l:List Arc) (i:Nat),(plFrom i l).length = l.length
  | [],_=>rfl
  | a :: l,i=>by simp [plFrom,plFrom_len l (i + 1)]
theorem plinks_len (l:List Arc):(plinks l).length = l.length:=plFrom_len l 0
theorem plFrom_get:∀ (l:List Arc) (i j:Nat),(plFrom i l)[j]? = (l[j]?).map (fun a=>(⟨i + j,a.f.toNat,a.t.toNat⟩:Lk))
  | [],i,j=>by simp [plFrom]
  | b :: l,i,j=>by
    cases j with
    | zero=>simp [plFrom]
    | succ j =>
      simp only [plFrom,List.getElem?_cons_succ]
      rw [plFrom_get l (i + 1) j,show i + 1 + j = i + (j + 1) from by omega]
theorem plinks_get (l:List Arc) (j:Nat):(plinks l)[j]? = (l[j]?).map (fun a=>(⟨j,a.f.toNat,a.t.toNat⟩:Lk)):=by
  unfold plinks; rw [plFrom_get]; simp
theorem plinks_iff {l:List Arc} {x:Lk}:x ∈ plinks l ↔ ∃ j a,l[j]? = some a ∧ x = ⟨j,a.f.toNat,a.t.toNat⟩:=by
  rw [List.mem_iff_getElem?]
  constructor
  · rintro ⟨j,hj⟩
    rw [plinks_get,Option.map_eq_some_iff] at hj
    obtain ⟨a,ha,rfl⟩:=hj
    exact ⟨j,a,ha,rfl⟩
  · rintro ⟨j,a,ha,rfl⟩
    exact ⟨j,by rw [plinks_get,ha]; rfl⟩
theorem pl_lt {n:Nat} {l:List Arc} (hok:∀ a ∈ l,okArc n a = true):∀ x ∈ plinks l,x.f < n ∧ x.t < n:=fun x hx=>by
  obtain ⟨j,a,ha,rfl⟩:=plinks_iff.1 hx
  have:=okArc_iff.1 (hok a (List.mem_of_getElem? ha))
  dsimp only; omega
theorem pl_k {l:List Arc} {x:Lk} (hx:x ∈ plinks l):x.k < l.length:=by
  obtain ⟨j,a,ha,rfl⟩:=plinks_iff.1 hx
  exact (List.getElem?_eq_some_iff.1 ha).1
def rmP (rest:List Int) (k:Nat):Int:=rest.getD k 0
def subP (room:Int) (rest:List Int) (x:Lk):List Int:=rest.set x.k (rest.getD x.k 0 - room)
def subAll (room:Int) (rest:List Int) (p:List Lk):List Int:=p.foldl (subP room) rest
theorem subP_len (room:Int) (rest:List Int) (x:Lk):(subP room rest x).length = rest.length:=by simp [subP]
theorem subAll_len (room:Int):∀ (p:List Lk) (rest:List Int),(subAll room rest p).length = rest.length
  | [],rest=>rfl
  | x :: p,rest=>by
    have:=subAll_len room p (subP room rest x)
    rw [subP_len] at this;exact this
theorem subAll_snoc (room:Int) (fl:List Int) (p:List Lk) (x:Lk):subAll room fl (p ++ [x]) = subP room (subAll room fl p) x:=by simp [subAll]
theorem subP_ok {n:Nat} {l:List Arc} {fl:List Int} {x:Lk} {room:Int} (hok:∀ a ∈ l,okArc n a = true) (hl:l.length = fl.length) (hc:inCap l fl = true) (hx:x ∈ plinks l) (h0:0 ≤ room) (hr:room ≤ rmP fl x.k) :
    inCap l (subP room fl x) = true ∧ (∀ v:Nat,fval v l (subP room fl x) = fval v l fl - ((if x.f = v then room else 0) - (if x.t = v then room else 0))) ∧ ∀ k,k ≠ x.k → rmP (subP room fl x) k = rmP fl k:=by
  obtain ⟨j,a,ha,rfl⟩:=plinks_iff.1 hx
  have hjl:j < l.length:=(List.getElem?_eq_some_iff.1 ha).1
  have hfj:fl[j]? = some (fl.getD j 0):=by simp [List.getD_eq_getElem?_getD,show j < fl.length by omega]
  have hin:=inCap_get l fl hc j a _ ha hfj
  obtain ⟨g1,g2,g3,g4,g5,g6,g7⟩:=okArc_iff.1 (hok a (List.mem_of_getElem? ha))
  unfold rmP at hr
  dsimp only at hr
  refine ⟨?_,?_,fun k hk=>?_⟩
  · unfold subP
    exact inCap_set l fl j a _ ha hc (by dsimp only; omega) (by dsimp only; omega)
  · intro v
    unfold subP
    dsimp only
    rw [fval_set v l fl j a _ ha hl]
    have e1:(a.f = (v:Int)) ↔ (a.f.toNat = v):=by omega
    have e2:(a.t = (v:Int)) ↔ (a.t.toNat = v):=by omega
    simp only [e1,e2]
    split <;> split <;> omega
  · unfold rmP subP
    exact getD_set' (Ne.symm hk)
theorem subAll_ok {n:Nat} {l:List Arc} {room:Int} (hok:∀ a ∈ l,okArc n a = true) (h0:0 ≤ room) {E:Lk → Prop} (hE:∀ x,E x → x ∈ plinks l) {u w:Nat} {p:List Lk} (hp:Chn E u p w) :
    ∀ (fl:List Int),l.length = fl.length → inCap l fl = true → p.Pairwise (fun x y=>x.k ≠ y.k) → (∀ x ∈ p,room ≤ rmP fl x.k) →
    inCap l (subAll room fl p) = true ∧ ∀ v:Nat,fval v l (subAll room fl p) = fval v l fl - ((if u = v then room else 0) - (if w = v then room else 0)):=by
  induction hp with
  | nil=>intro fl _ hc _ _; exact ⟨hc,fun v=>by simp [subAll]⟩
  | @cons x u p w hf hx _ ih =>
    intro fl hl hc hpw hr
    rw [List.pairwise_cons] at hpw
    obtain ⟨s1,s2,s3⟩:=subP_ok hok hl hc (hE x hx) h0 (hr x (by simp))
    obtain ⟨r1,r2⟩:=ih (subP room fl x) (by rw [subP_len]; exact hl) s1 hpw.2 (fun y hy=>by rw [s3 y.k (Ne.symm (hpw.1 y hy))]; exact hr y (by simp [hy]))
    refine ⟨r1,fun v=>?_⟩
    have:=r2 v
    rw [s2 v] at this
    show fval v l (subAll room (subP room fl x) p) = _
    rw [this,hf]
    split <;> split <;> split <;> omega
abbrev pE (l:List Arc) (fl:List Int):Lk → Prop:=opn (plinks l) (rmP fl)
abbrev pP (l:List Arc) (fl:List Int) (D:List Int) (s:Nat):List Lk:=pathD (nxt (plinks l) (rmP fl) D) D s
abbrev pRoom (l:List Arc) (fl:List Int) (D:List Int) (s:Nat):Int:=leastR (rmP fl) (pP l fl D s)
abbrev pNext (l:List Arc) (fl:List Int) (D:List Int) (s:Nat):List Int:=subAll (pRoom l fl D s) fl (pP l fl D s)
section
variable {n s t:Nat} {l:List Arc}
theorem pP_arcs (hok:∀ a ∈ l,okArc n a = true) (hs:s < n) {fl D:List Int} (hD:IsDist n t (pE l fl) D) (h0:0 ≤ D.getD s 0):(pP l fl D s).Pairwise (fun x y=>x.k ≠ y.k):=by
  obtain ⟨k,hk⟩:=Int.eq_ofNat_of_zero_le h0
  have hp:=path_sorted (pl_lt hok) hD k s hs hk
  have hc:=(path_chn (pl_lt hok) hD k s hs hk).all
  refine List.Pairwise.imp_of_mem (fun {x y} hx hy hxy e=>?_) hp
  obtain ⟨i,a,ha,rfl⟩:=plinks_iff.1 (hc x hx).1.1
  obtain ⟨j,b,hb,rfl⟩:=plinks_iff.1 (hc y hy).1.1
  dsimp only at e hxy
  subst e;rw [ha] at hb
  obtain rfl:=Option.some.inj hb
  omega
theorem pNext_ok (hok:∀ a ∈ l,okArc n a = true) (hs:s < n) (hst:s ≠ t) {fl D:List Int} (hf:Flw n l s t fl) (hD:IsDist n t (pE l fl) D) (h0:0 ≤ D.getD s 0) :
    Flw n l s t (pNext l fl D s) ∧ 0 < pRoom l fl D s ∧ fval s l (pNext l fl D s) = fval s l fl - pRoom l fl D s:=by
  obtain ⟨k,hk⟩:=Int.eq_ofNat_of_zero_le h0
  have hch:=path_chn (pl_lt hok) hD k s hs hk
  have hpos:0 < pRoom l fl D s:=leastR_pos _ _ _ (by omega) (fun x hx=>(hch.all x hx).1.2)
  obtain ⟨r1,r2⟩:=subAll_ok hok (Int.le_of_lt hpos) (E:=fun x=>pE l fl x ∧ D.getD x.t 0 = D.getD x.f 0 - 1 ∧ D.getD x.f 0 ≤ k) (fun x hx=>hx.1.1) hch fl hf.len hf.cap (pP_arcs hok hs hD h0) (fun x hx=>(leastR_le _ _ _).2 x hx)
  refine ⟨⟨by rw [subAll_len]; exact hf.len,r1,fun v hv h1 h2=>?_⟩,hpos,?_⟩
  · rw [r2 v,if_neg (Ne.symm h1),if_neg (Ne.symm h2),hf.bal v hv h1 h2]; rfl
  · rw [r2 s,if_pos rfl,if_neg (Ne.symm hst)]; omega
theorem pTake_cap (hok:∀ a ∈ l,okArc n a = true) (hs:s < n) {fl D:List Int} (hf:Flw n l s t fl) (hD:IsDist n t (pE l fl) D) (h0:0 ≤ D.getD s 0) (i:Nat) :
    inCap l (subAll (pRoom l fl D s) fl ((pP l fl D s).take i)) = true:=by
  obtain ⟨k,hk⟩:=Int.eq_ofNat_of_zero_le h0
  have hch:=path_chn (pl_lt hok) hD k s hs hk
  have hpos:0 < pRoom l fl D s:=leastR_pos _ _ _ (by omega) (fun x hx=>(hch.all x hx).1.2)
  obtain ⟨w,hw⟩:=hch.take i
  exact (subAll_ok hok (Int.le_of_lt hpos) (E:=fun x=>pE l fl x ∧ D.getD x.t 0 = D.getD x.f 0 - 1 ∧ D.getD x.f 0 ≤ k) (fun x hx=>hx.1.1) hw fl hf.len hf.cap ((pP_arcs hok hs hD h0).sublist (List.take_sublist _ _)) (fun x hx=>(leastR_le _ _ _).2 x (List.mem_of_mem_take hx))).1
end
inductive RunP (n:Nat) (l:List Arc) (s t:Nat):List Int → List (List Lk × Int) → List Int → Prop
  | done {fl D:List Int}:IsDist n t (pE l fl) D → D.getD s 0 < 0 → RunP n l s t fl [] fl
  | step {fl D r:List Int} {ps:List (List Lk × Int)}:IsDist n t (pE l fl) D → 0 ≤ D.getD s 0 → RunP n l s t (pNext l fl D s) ps r → RunP n l s t fl ((pP l fl D s,pRoom l fl D s) :: ps) r
theorem RunP.uniq {n s t:Nat} {l:List Arc} (hok:∀ a ∈ l,okArc n a = true) {fl F G:List Int} {ps qs:List (List Lk × Int)} (h1:RunP n l s t fl ps F) (h2:RunP n l s t fl qs G):ps = qs ∧ F = G:=by
  have hE:∀ fl x,pE l fl x → x.f < n ∧ x.t < n:=fun fl x hx=>pl_lt hok x hx.1
  induction h1 generalizing G qs with
  | done hD hn =>
    cases h2 with
    | done=>exact ⟨rfl,rfl⟩
    | step hD2 h0 _=>rw [hD.uniq (hE _) hD2] at hn; omega
  | step hD h0 _ ih =>
    cases h2 with
    | done hD2 hn=>rw [hD.uniq (hE _) hD2] at h0; omega
    | step hD2 _ hr =>
      have e:=hD.uniq (hE _) hD2
      subst e
      obtain ⟨e1,e2⟩:=ih hr
      exact ⟨by rw [e1],e2⟩
section
variable {n s t:Nat} {l:List Arc}
theorem net_le0 (B:Nat → Bool):∀ (l:List Arc) (fl:List Int),inCap l fl = true → (∀ (i:Nat) (a:Arc) (x:Int),l[i]? = some a → fl[i]? = some x → B a.f.toNat = true → B a.t.toNat = false → x = 0) → netB B l fl ≤ 0
  | [],_,_,_=>by simp [netB]
  | _ :: _,[],_,_=>by simp [netB]
  | a :: l,x :: fl,h,hz=>by
    simp only [inCap,Bool.and_eq_true,decide_eq_true_eq] at h
    have ih:=net_le0 B l fl h.2 (fun i b y hb hy=>hz (i + 1) b y (by simpa using hb) (by simpa using hy))
    have h0:=hz 0 a x rfl rfl
    simp only [netB]
    cases hB1:B a.f.toNat <;> cases hB2:B a.t.toNat <;> simp <;> first | omega | (have:=h0 hB1 hB2; omega)
theorem rest_le0 (hok:∀ a ∈ l,okArc n a = true) (hs:s < n) (ht:t < n) {fl D:List Int} (hf:Flw n l s t fl) (hD:IsDist n t (pE l fl) D) (hn:D.getD s 0 < 0):fval s l fl ≤ 0:=by
  obtain ⟨B,hB⟩:=exists_reach n (pE l fl) s
  have hE:∀ x,pE l fl x → x.f < n ∧ x.t < n:=fun x hx=>pl_lt hok x hx.1
  have b1:B s = true:=(hB s hs).2 .refl
  have b2:B t = false:=by
    cases hb:B t with
    | false=>rfl
    | true =>
      have:=((hB t ht).1 hb).far hD hn
      rw [hD.at0] at this; omega
  rw [← hf.net hok hs b1 b2]
  refine net_le0 B l fl hf.cap (fun i a x ha hx h1 h2=>?_)
  have hin:=inCap_get l fl hf.cap i a x ha hx
  apply Classical.byContradiction
  intro hne
  have:=hB.closed hE ⟨i,a.f.toNat,a.t.toNat⟩ ⟨plinks_iff.2 ⟨i,a,ha,rfl⟩,by unfold rmP; dsimp only; rw [List.getD_eq_getElem?_getD,hx]; simp only [Option.getD_some]; omega⟩ h1
  dsimp only at this
  rw [h2] at this; simp at this
end
/-! ### a greater capacity -/
/-! ### arcs turned round,arcs in the opposite order -/
def turnA (a:Arc):Arc:=⟨a.t,a.f,a.c⟩
theorem fval_turn (v:Int):∀ (l:List Arc) (fl:List Int),fval v (l.map turnA) fl = - fval v l fl
  | [],_=>by simp [fval]
  | _ :: _,[]=>by simp [fval]
  | a :: l,x :: fl=>by
    simp only [List.map_cons,fval,fval_turn v l fl,turnA]
    split <;> split <;> omega
theorem inCap_turn:∀ (l:List Arc) (fl:List Int),inCap (l.map turnA) fl = inCap l fl
  | [],_=>by simp [inCap]
  | _ :: _,[]=>by simp [inCap]
  | a :: l,x :: fl=>by simp only [List.map_cons,inCap,inCap_turn l fl,turnA]
theorem netB_all:∀ (l:List Arc) (fl:List Int),netB (fun _=>true) l fl = 0
  | [],_=>by simp [netB]
  | _ :: _,[]=>by simp [netB]
  | a :: l,x :: fl=>by simp only [netB,if_true]; rw [netB_all l fl]; omega
theorem sumTo_two {g:Nat → Int} {j k:Nat} (hjk:j ≠ k):∀ n,j < n → k < n → (∀ v,v < n → v ≠ j → v ≠ k → g v = 0) → sumTo g n = g j + g k
  | 0,h,_,_=>by omega
  | n + 1,h,h2,e=>by
    simp only [sumTo]
    by_cases e1:k = n
    · rw [sumTo_one (k:=j) n (by omega) (fun v hv hne=>e v (by omega) hne (by omega)),e1]
    · by_cases e2:j = n
      · rw [sumTo_one (k:=k) n (by omega) (fun v hv hne=>e v (by omega) (by omega) hne),e2]; omega
      · rw [sumTo_two hjk n (by omega) (by omega) (fun v hv g1 g2=>e v (by omega) g1 g2),e n (by omega) (by omega) (by omega)]; omega
theorem Flw.ends {n s t:Nat} {l:List Arc} {fl:List Int} (hok:∀ a ∈ l,okArc n a = true) (hs:s < n) (ht:t < n) (hst:s ≠ t) (hf:Flw n l s t fl):fval t l fl = - fval s l fl:=by
  have h:=netB_eq (n:=n) (fun _=>true) l fl hok
  rw [netB_all] at h
  rw [sumTo_two hst n hs ht (fun v hv g1 g2=>by simp only [if_true]; exact hf.bal v hv g1 g2)] at h
  simp only [if_true] at h;omega
theorem Flw.turn {n s t:Nat} {l:List Arc} {fl:List Int} (hf:Flw n l s t fl):Flw n (l.map turnA) t s fl:=
  ⟨by simp [hf.len],by rw [inCap_turn]; exact hf.cap,fun v hv g1 g2=>by rw [fval_turn,hf.bal v hv g2 g1]; rfl⟩
/-! ### differences of flows -/
def diffL (a b:List Int):List Int:=List.zipWith (· - ·) a b
theorem diffL_len {a b:List Int} (h:a.length = b.length):(diffL a b).length = a.length:=by simp [diffL,h]
theorem fval_diff (v:Int):∀ (l:List Arc) (a b:List Int),a.length = b.length → fval v l (diffL a b) = fval v l a - fval v l b
  | [],[],[],_=>by simp [fval]
  | [],_ :: _,_ :: _,_=>by simp [fval]
  | _ :: _,[],[],_=>by simp [fval,diffL]
  | c :: l,x :: a,y :: b,h=>by
    have:=fval_diff v l a b (by simpa using h)
    simp only [diffL,List.zipWith_cons_cons,fval] at this ⊢;rw [this]
    split <;> split <;> omega
theorem diffL_get {a b:List Int} {i:Nat} (h:i < a.length) (h2:i < b.length):(diffL a b).getD i 0 = a.getD i 0 - b.getD i 0:=by
  rw [List.getD_eq_getElem?_getD,List.getD_eq_getElem?_getD,List.getD_eq_getElem?_getD,diffL,List.getElem?_zipWith,List.getElem?_eq_getElem h,List.getElem?_eq_getElem h2]
  rfl
theorem diffL_set {a b:List Int} {i:Nat} (x:Int) (h:i < a.length) (h2:i < b.length):(diffL a b).set i ((diffL a b).getD i 0 + x) = diffL a (b.set i (b.getD i 0 - x)):=by
  rw [diffL_get h h2]
  apply List.ext_getElem
  · simp [diffL]
  · intro j h1 h3
    simp only [diffL,List.getElem_set,List.getElem_zipWith]
    split
    · rename_i e; subst e
      simp [List.getD_eq_getElem?_getD,h,h2]; omega
    · rfl
theorem diffL_self:∀ (a:List Int),diffL a a = List.replicate a.length 0
  | []=>rfl
  | x :: a=>by
    have:=diffL_self a
    simp only [diffL] at this ⊢;rw [List.zipWith_cons_cons,this,List.length_cons,List.replicate_succ,Int.sub_self]
end Go.Flow
/- The shipments of a flow can be made, and bring its value. No program in sight. No conditions. -/
namespace Go.Step
open Go.Flow (Flw fval inCap okArc okArc_iff)
section
variable {qs:List Int} {cs:List Ct} {bs:List Bk} {hs:List Hd} {d:Dm}
end
end Go.Step
/- The cut of a set of vertices. No program in sight. No conditions. -/
namespace Go.Step
def singI (d:Dm) (n:Int) (side:List Int):Iv:=(side.filter (fun v=>decide (v / wd d = n))).map (fun v=>(d.r + v % wd d,d.r + v % wd d + 1))
def sideI (d:Dm) (side:List Int) (n:Int):Iv:=insAll [] (singI d n side)
theorem singI_next (d:Dm) (n:Int) {side:List Int} {k:Nat} (h:k < side.length):singI d n (side.take (k + 1)) = singI d n (side.take k) ++ (if side[k] / wd d = n then [(d.r + side[k] % wd d,d.r + side[k] % wd d + 1)] else []):=by
  unfold singI;rw [List.take_succ_eq_append_getElem h,List.filter_append,List.map_append]
  congr 1
  by_cases hc:side[k] / wd d = n
  · simp [hc]
  · simp [hc]
theorem sideI_next (d:Dm) (n:Int) {side:List Int} {k:Nat} (h:k < side.length):sideI d (side.take (k + 1)) n = if side[k] / wd d = n then insI (sideI d (side.take k) n) (d.r + side[k] % wd d,d.r + side[k] % wd d + 1) else sideI d (side.take k) n:=by
  unfold sideI;rw [singI_next d n h];unfold insAll;rw [List.foldl_append]
  split <;> rfl
theorem singI_ok (d:Dm) (n:Int) (side:List Int):∀ x ∈ singI d n side,x.2 = x.1 + 1:=fun x hx=>by
  unfold singI at hx
  obtain ⟨v,_,rfl⟩:=List.mem_map.1 hx
  rfl
theorem mem_singI {d:Dm} {n t:Int} {side:List Int}:memI (singI d n side) t = true ↔ ∃ v ∈ side,v / wd d = n ∧ d.r + v % wd d = t:=by
  rw [memI_iff];unfold singI
  constructor
  · rintro ⟨x,hx,h1,h2⟩
    obtain ⟨v,hv,rfl⟩:=List.mem_map.1 hx
    obtain ⟨h3,h4⟩:=List.mem_filter.1 hv
    exact ⟨v,h3,of_decide_eq_true h4,by dsimp only at h1 h2; omega⟩
  · rintro ⟨v,hv,h1,h2⟩
    exact ⟨_,List.mem_map.2 ⟨v,List.mem_filter.2 ⟨hv,decide_eq_true h1⟩,rfl⟩,by dsimp only; omega,by dsimp only; omega⟩
theorem sideI_ok (d:Dm) (side:List Int) (n:Int):NormI (sideI d side n) ∧ (∀ t,memI (sideI d side n) t = true ↔ ∃ v ∈ side,v / wd d = n ∧ d.r + v % wd d = t) ∧ (sideI d side n).length ≤ side.length:=by
  obtain ⟨h1,h2,h3⟩:=insAll_ok (a:=[]) (b:=singI d n side) NormI.nil (fun x hx=>by have:=singI_ok d n side x hx; omega)
  refine ⟨h1,fun t=>?_,?_⟩
  · unfold sideI
    rw [h2,show memI [] t = false from rfl,Bool.false_or]
    exact mem_singI
  · have:(singI d n side).length ≤ side.length:=by
      unfold singI;rw [List.length_map];exact List.length_filter_le _ _
    unfold sideI
    simp at h3
    omega
theorem sideI_in {d:Dm} (hw:d.r ≤ d.e) (side:List Int) (n:Int):∀ x ∈ sideI d side n,d.r ≤ x.1 ∧ x.2 ≤ d.e + 1:=norm_in (sideI_ok d side n).1 (fun t ht=>by
  obtain ⟨v,_,_,h⟩:=((sideI_ok d side n).2.1 t).1 ht
  have a:=Int.emod_nonneg v (show wd d ≠ 0 by unfold wd; omega)
  have b:=Int.emod_lt_of_pos v (show 0 < wd d by unfold wd; omega)
  unfold wd at *
  omega)
def sidesC (d:Dm) (nq:Nat) (side:List Int):Cu:=(List.range nq).map (fun n:Nat=>sideI d side n)
section
variable {qs:List Int} {cs:List Ct} {bs:List Bk} {hs:List Hd} {d:Dm}
theorem capB_congr (h:VOk qs cs bs hs d) {B C:Int → Int → Bool} (hB:∀ n t:Int,0 ≤ n → n < (qs.length:Int) → d.r ≤ t → t ≤ d.e → B n t = C n t):capB qs cs bs hs d B = capB qs cs bs hs d C:=by
  unfold capB
  congr 1
  · refine sumT_congr (fun k hk=>?_)
    rw [← lsum_rngI,← lsum_rngI]
    refine lsum_congr (fun t ht=>?_)
    rw [mem_rngI] at ht;unfold waitB
    rw [hB _ t (by omega) (by omega) (by omega) (by omega),hB _ (t + 1) (by omega) (by omega) (by omega) (by omega)]
  · refine sumT_congr (fun k hk=>?_)
    rw [← lsum_rngI,← lsum_rngI]
    refine lsum_congr (fun t ht=>?_)
    rw [mem_rngI] at ht;unfold conB;rw [Int.zero_add,Int.toNat_natCast,List.getElem?_eq_getElem hk]
    have k1:=h.ct _ (List.getElem_mem hk)
    generalize cs[k] = x at k1
    dsimp only
    by_cases hx:t + 1 + x.g ≤ d.e
    · rw [hB _ t k1.1.1 k1.1.2 (by omega) (by omega),hB _ (t + 1 + x.g) k1.2.1.1 k1.2.1.2 (by omega) hx]
    · rw [if_neg (fun h2=>hx h2.2.2.1),if_neg (fun h2=>hx h2.2.2.1)]
end
end Go.Step
/- The shipments of a flow, one after the other; what Shipments answers. No program in sight. No conditions. -/
namespace Go.Step
open Go.Flow
variable {qs:List Int} {cs:List Ct} {bs:List Bk} {hs:List Hd} {d:Dm}
theorem shipsF_append:∀ {A B:List EA} {f g:List Int},A.length = f.length → shipsF (A ++ B) (f ++ g) = shipsF A f ++ shipsF B g
  | [],_,[],_,_=>rfl
  | [],_,_ :: _,_,h=>by simp at h
  | _ :: _,_,[],_,h=>by simp at h
  | x :: A,B,y :: f,g,h=>by
    simp only [List.cons_append,shipsF]
    rw [shipsF_append (by simpa using h),List.append_assoc]
theorem shipsF_next {L:List EA} {fl:List Int} (h:fl.length = L.length) {i:Nat} {x:EA} {y:Int} (hx:L[i]? = some x) (hy:fl[i]? = some y) :
    shipsF (L.take (i + 1)) (fl.take (i + 1)) = shipsF (L.take i) (fl.take i) ++ (if 0 ≤ x.c ∧ 0 < y then [⟨x.c,x.t,y⟩] else []):=by
  rw [List.take_add_one,List.take_add_one,hx,hy]
  rw [shipsF_append (by rw [List.length_take,List.length_take,h])]
  simp [shipsF]
theorem shipsF_len:∀ (L:List EA) (fl:List Int),(shipsF L fl).length ≤ L.length
  | [],_=>by simp [shipsF]
  | _ :: _,[]=>by simp [shipsF]
  | x :: L,y :: fl=>by
    have:=shipsF_len L fl
    simp only [shipsF,List.length_append,List.length_cons]
    split <;> simp <;> omega
def shipsE (qs:List Int) (cs:List Ct) (bs:List Bk) (hs:List Hd) (d:Dm) (fl:List Int):Int:=
  if validT qs cs bs hs d = true then (valueSpec (vsN qs d) (arcsG qs cs bs hs d) fl (vtx d d.s d.r) (vtx d d.d d.e)).2 else 1
def shipsR (qs:List Int) (cs:List Ct) (bs:List Bk) (hs:List Hd) (d:Dm) (fl:List Int):List Sh:=
  if shipsE qs cs bs hs d fl = 0 then shipsF (arcsE qs cs bs hs d) fl else []
theorem shipsE_len {fl:List Int} (hv:validT qs cs bs hs d = true) (h:shipsE qs cs bs hs d fl = 0):fl.length = (arcsE qs cs bs hs d).length:=by
  unfold shipsE at h;rw [if_pos hv] at h;unfold valueSpec at h
  split at h
  · rename_i hc; exact absurd h hc
  split at h
  · simp at h
  split at h
  · simp at h
  · rename_i hl
    have:(arcsG qs cs bs hs d).length = (arcsE qs cs bs hs d).length:=by unfold arcsG; rw [List.length_map]
    have hl':fl.length = (arcsG qs cs bs hs d).length:=by
      apply Classical.byContradiction
      intro hne
      exact hl hne
    omega
def sidesE (qs:List Int) (cs:List Ct) (bs:List Bk) (hs:List Hd) (d:Dm) (side:List Int):Int:=
  if validT qs cs bs hs d = true then (capacitySpec (vsN qs d) (arcsG qs cs bs hs d) side).2 else 1
theorem sideChk_in {n:Int}:∀ {l:List Int} {p:Option Int},sideChk n p l = 0 → ∀ v ∈ l,0 ≤ v ∧ v < n
  | [],_,_=>by simp
  | v :: l,p,h=>by
    unfold sideChk at h
    split at h
    · simp at h
    rename_i hv
    have h0:sideChk n (some v) l = 0:=by
      split at h
      · split at h
        · simp at h
        · exact h
      · simpa using h
    intro u hu
    rcases List.mem_cons.1 hu with rfl | hu
    · omega
    · exact sideChk_in h0 u hu
theorem sidesE_in {side:List Int} (hv:validT qs cs bs hs d = true) (h:sidesE qs cs bs hs d side = 0):∀ v ∈ side,0 ≤ v ∧ v < vsN qs d:=by
  unfold sidesE at h;rw [if_pos hv] at h;unfold capacitySpec at h
  split at h
  · rename_i hc; exact absurd h hc
  split at h
  · rename_i hc; exact absurd h hc
  · rename_i hc
    exact sideChk_in (p:=none) (by omega)
theorem sideI_one {a:Iv} (ha:NormI a) (t:Int):combI (fun x y=>x || y) a [(t,t + 1)] = insI a (t,t + 1):=by
  have h:=unionI_eq (a:=a) (b:=[(t,t + 1)]) ha (NormI.nil.cons (by dsimp only; omega) (by simp))
  exact h.symm
theorem sidesC_nil (d:Dm) (nq:Nat):sidesC d nq [] = List.replicate nq []:=by
  unfold sidesC
  apply List.ext_getElem?
  intro i
  rw [List.getElem?_map,List.getElem?_replicate]
  by_cases h:i < nq
  · rw [List.getElem?_range h,if_pos h]; rfl
  · rw [List.getElem?_eq_none (by simp; omega),if_neg h]; rfl
theorem sidesC_next (d:Dm) (nq:Nat) {side:List Int} {k:Nat} (h:k < side.length) {n:Nat} (hn:side[k] / wd d = n) :
    sidesC d nq (side.take (k + 1)) = (sidesC d nq (side.take k)).set n (insI (sideI d (side.take k) n) (d.r + side[k] % wd d,d.r + side[k] % wd d + 1)):=by
  unfold sidesC
  apply List.ext_getElem?
  intro i
  rw [List.getElem?_set,List.getElem?_map,List.getElem?_map,List.length_map,List.length_range]
  by_cases hi:i < nq
  · rw [List.getElem?_range hi]
    simp only [Option.map_some];rw [sideI_next d _ h]
    by_cases he:n = i
    · subst he
      rw [if_pos hn,if_pos rfl,if_pos hi]
    · rw [if_neg (by omega),if_neg he]
  · rw [List.getElem?_eq_none (by simp; omega)]
    by_cases he:n = i
    · rw [if_pos he,if_neg (by omega)]; rfl
    · rw [if_neg he]; rfl
theorem sidesC_len (d:Dm) (nq:Nat) (side:List Int):(sidesC d nq side).length = nq:=by simp [sidesC]
end Go.Step
/- Shipments. -/
namespace Go.Proofs.YtphehihohghfoaaGreat
open Go.Eng Go.Step
set_option maxRecDepth 100000
set_option maxHeartbeats 4000000

set_option maxHeartbeats 32000000 in
theorem Shipments_spec {ρ τ σ υ:PH} {pq pc pb ph:Option Addr} {kq kc kb kh:Nat} {qs:List Int} {cs:List Ct} {bs:List Bk} {hs:List Hd} (hT:TbAt ρ τ σ υ pq pc pb ph kq kc kb kh qs cs bs hs) (d:Dm) (ω:PH) (u0:Value) (fl:List Int) (hu:IntsAt ω u0 fl) :
  Makes Tryz.prog (fv 34) [.agg #[.slice pq qs.length kq,.slice pc cs.length kc,.slice pb bs.length kb,.slice ph hs.length kh],.agg #[int d.s,int d.d,int d.v,int d.r,int d.e],u0] [ρ,τ,σ,υ,ω] (fun r χ=>∃ u,r = .tuple #[u,int (shipsE qs cs bs hs d fl)] ∧ OwnS 55 3 u (shipsR qs cs bs hs d fl).length ((shipsR qs cs bs hs d fl).flatMap encX) χ):=by
 obtain ⟨pf,kf,rfl,hrf⟩:=hu.val Eng.encI_len
 refine spec_in (cap:=[]) Tryz.func34 rfl rfl Tryz.ntmps34 rfl envZ (fun N β=>?_)
 refine AD ?_;refine AA ?_;refine BH (BK rfl) rfl rfl rfl ?_;rintro _ _ ⟨b1,rfl,rfl⟩;refine AS (ρ:=sng b1 _) takeZ ?_
 have ct:RdN (sng b1 (.cells #[.slice pq qs.length kq,.slice pc cs.length kc,.slice pb bs.length kb,.slice ph hs.length kh] 29 (0,0))) b1 0 [.slice pq qs.length kq,.slice pc cs.length kc,.slice pb bs.length kb,.slice ph hs.length kh]:=rdN_sng (vs:=[.slice pq qs.length kq,.slice pc cs.length kc,.slice pb bs.length kb,.slice ph hs.length kh])
 have ct0:rdc (sng b1 (.cells #[.slice pq qs.length kq,.slice pc cs.length kc,.slice pb bs.length kb,.slice ph hs.length kh] 29 (0,0))) b1 0 = some (.slice pq qs.length kq):=by rw [rdc_sng]; rfl
 have ct1:rdc (sng b1 (.cells #[.slice pq qs.length kq,.slice pc cs.length kc,.slice pb bs.length kb,.slice ph hs.length kh] 29 (0,0))) b1 1 = some (.slice pc cs.length kc):=by rw [rdc_sng]; rfl
 have ct2:rdc (sng b1 (.cells #[.slice pq qs.length kq,.slice pc cs.length kc,.slice pb bs.length kb,.slice ph hs.length kh] 29 (0,0))) b1 2 = some (.slice pb bs.length kb):=by rw [rdc_sng]; rfl
 have ct3:rdc (sng b1 (.cells #[.slice pq qs.length kq,.slice pc cs.length kc,.slice pb bs.length kb,.slice ph hs.length kh] 29 (0,0))) b1 3 = some (.slice ph hs.length kh):=by rw [rdc_sng]; rfl
 have ctp:RdP (sng b1 (.cells #[.slice pq qs.length kq,.slice pc cs.length kc,.slice pb bs.length kb,.slice ph hs.length kh] 29 (0,0))) b1 0 [.slice pq qs.length kq,.slice pc cs.length kc]:=rdP_sng (xs:=[.slice pq qs.length kq,.slice pc cs.length kc,.slice pb bs.length kb,.slice ph hs.length kh]) rfl
 refine BH (BK rfl) rfl rfl rfl ?_;rintro _ _ ⟨b2,rfl,rfl⟩;refine AS (ρ:=sng b2 _) takeZ ?_
 have cd:RdN (sng b2 (.cells #[int d.s,int d.d,int d.v,int d.r,int d.e] 31 (0,0))) b2 0 [int d.s,int d.d,int d.v,int d.r,int d.e]:=rdN_sng (vs:=[int d.s,int d.d,int d.v,int d.r,int d.e])
 have cd0:rdc (sng b2 (.cells #[int d.s,int d.d,int d.v,int d.r,int d.e] 31 (0,0))) b2 0 = some (int d.s):=by rw [rdc_sng]; rfl
 have cd1:rdc (sng b2 (.cells #[int d.s,int d.d,int d.v,int d.r,int d.e] 31 (0,0))) b2 1 = some (int d.d):=by rw [rdc_sng]; rfl
 have cd2:rdc (sng b2 (.cells #[int d.s,int d.d,int d.v,int d.r,int d.e] 31 (0,0))) b2 2 = some (int d.v):=by rw [rdc_sng]; rfl
 have cd3:rdc (sng b2 (.cells #[int d.s,int d.d,int d.v,int d.r,int d.e] 31 (0,0))) b2 3 = some (int d.r):=by rw [rdc_sng]; rfl
 have cd4:rdc (sng b2 (.cells #[int d.s,int d.d,int d.v,int d.r,int d.e] 31 (0,0))) b2 4 = some (int d.e):=by rw [rdc_sng]; rfl
 refine BH (CW rfl rfl) rfl rfl rfl ?_;rintro _ _ ⟨bf,rfl,rfl⟩;refine AS (ρ:=sng bf _) takeZ ?_
 have cf:rdc (sng bf (.cells #[.slice pf fl.length kf] 22 (0,0))) bf 0 = some (.slice pf fl.length kf):=by rw [rdc_sng]; rfl
 refine BV ?_;refine AC ?_;refine AC ?_;refine AE ?_;refine AD ?_;refine AA ?_;refine AT ?_;refine AT ?_;refine BE (build_spec hT d) rfl rfl Takes.nil rdZ rfl rfl ?_;rintro _ H' (⟨hv,rfl,rfl⟩ | ⟨hv,bw,bm,pl0,χ,M,rfl,rfl,hO,hM⟩)
 ·have hE:shipsE qs cs bs hs d fl = 1:=by unfold shipsE; rw [if_neg (by simp [hv])]
  have hR:shipsR qs cs bs hs d fl = []:=by unfold shipsR; rw [hE,if_neg (by omega)]
  rw [hE,hR];refine AB ?_;refine AO ?_;refine AO ?_;refine AC ?_;refine AC ?_;refine AE ?_;refine AD ?_;refine AD ?_;refine AA ?_;refine AB ?_;refine BB ?_;refine AE ?_;refine AM rfl ?_;refine AD ?_;refine AA ?_;refine AC ?_;refine AC ?_;refine AE ?_;exact AI (res2 rfl rfl rfl) rsubZ selZ ⟨emp,⟨_,rfl,OwnS.nil _ _⟩,rfl⟩
 have hEv:shipsE qs cs bs hs d fl = (Go.Flow.valueSpec (vsN qs d) (arcsG qs cs bs hs d) fl (vtx d d.s d.r) (vtx d d.d d.e)).2:=by unfold shipsE; rw [if_pos hv]
 have h:=vok hv
 have h0:=vokB hv
 have hdm:=h.dm
 unfold okDm at hdm
 have hnq:=h.nq
 obtain ⟨pl,kp,rfl⟩:=hO.form
 have hpl:SlE encS 2 χ (.slice pl (placesA d qs.length).length kp) (placesA d qs.length):=hO.at
 refine AS (ρ:=sng bw _) takeZ ?_;refine AS (ρ:=sng bm _) takeZ ?_;refine AS (ρ:=χ) takeZ ?_
 have w0:rdc (sng bw (.cells #[.slice pq qs.length kq,.slice pc cs.length kc,.slice pb bs.length kb,.slice ph hs.length kh,int d.s,int d.d,int d.v,int d.r,int d.e,.slice pl (placesA d qs.length).length kp,.map (some bm)] 134 (0,0))) bw 0 = some (.slice pq qs.length kq):=by rw [rdc_sng]; rfl
 have w1:rdc (sng bw (.cells #[.slice pq qs.length kq,.slice pc cs.length kc,.slice pb bs.length kb,.slice ph hs.length kh,int d.s,int d.d,int d.v,int d.r,int d.e,.slice pl (placesA d qs.length).length kp,.map (some bm)] 134 (0,0))) bw 1 = some (.slice pc cs.length kc):=by rw [rdc_sng]; rfl
 have w2:rdc (sng bw (.cells #[.slice pq qs.length kq,.slice pc cs.length kc,.slice pb bs.length kb,.slice ph hs.length kh,int d.s,int d.d,int d.v,int d.r,int d.e,.slice pl (placesA d qs.length).length kp,.map (some bm)] 134 (0,0))) bw 2 = some (.slice pb bs.length kb):=by rw [rdc_sng]; rfl
 have w3:rdc (sng bw (.cells #[.slice pq qs.length kq,.slice pc cs.length kc,.slice pb bs.length kb,.slice ph hs.length kh,int d.s,int d.d,int d.v,int d.r,int d.e,.slice pl (placesA d qs.length).length kp,.map (some bm)] 134 (0,0))) bw 3 = some (.slice ph hs.length kh):=by rw [rdc_sng]; rfl
 have w4:rdc (sng bw (.cells #[.slice pq qs.length kq,.slice pc cs.length kc,.slice pb bs.length kb,.slice ph hs.length kh,int d.s,int d.d,int d.v,int d.r,int d.e,.slice pl (placesA d qs.length).length kp,.map (some bm)] 134 (0,0))) bw 4 = some (int d.s):=by rw [rdc_sng]; rfl
 have w5:rdc (sng bw (.cells #[.slice pq qs.length kq,.slice pc cs.length kc,.slice pb bs.length kb,.slice ph hs.length kh,int d.s,int d.d,int d.v,int d.r,int d.e,.slice pl (placesA d qs.length).length kp,.map (some bm)] 134 (0,0))) bw 5 = some (int d.d):=by rw [rdc_sng]; rfl
 have w6:rdc (sng bw (.cells #[.slice pq qs.length kq,.slice pc cs.length kc,.slice pb bs.length kb,.slice ph hs.length kh,int d.s,int d.d,int d.v,int d.r,int d.e,.slice pl (placesA d qs.length).length kp,.map (some bm)] 134 (0,0))) bw 6 = some (int d.v):=by rw [rdc_sng]; rfl
 have w7:rdc (sng bw (.cells #[.slice pq qs.length kq,.slice pc cs.length kc,.slice pb bs.length kb,.slice ph hs.length kh,int d.s,int d.d,int d.v,int d.r,int d.e,.slice pl (placesA d qs.length).length kp,.map (some bm)] 134 (0,0))) bw 7 = some (int d.r):=by rw [rdc_sng]; rfl
 have w8:rdc (sng bw (.cells #[.slice pq qs.length kq,.slice pc cs.length kc,.slice pb bs.length kb,.slice ph hs.length kh,int d.s,int d.d,int d.v,int d.r,int d.e,.slice pl (placesA d qs.length).length kp,.map (some bm)] 134 (0,0))) bw 8 = some (int d.e):=by rw [rdc_sng]; rfl
 have w9:rdc (sng bw (.cells #[.slice pq qs.length kq,.slice pc cs.length kc,.slice pb bs.length kb,.slice ph hs.length kh,int d.s,int d.d,int d.v,int d.r,int d.e,.slice pl (placesA d qs.length).length kp,.map (some bm)] 134 (0,0))) bw 9 = some (.slice pl (placesA d qs.length).length kp):=by rw [rdc_sng]; rfl
 have w10:rdc (sng bw (.cells #[.slice pq qs.length kq,.slice pc cs.length kc,.slice pb bs.length kb,.slice ph hs.length kh,int d.s,int d.d,int d.v,int d.r,int d.e,.slice pl (placesA d qs.length).length kp,.map (some bm)] 134 (0,0))) bw 10 = some (.map (some bm)):=by rw [rdc_sng]; rfl
 have hg:=graph_spec hT bw bm kp pl χ M d h h0 hpl hM
 have hit:=fun c1=>arcs_iter hT bw bm c1 kp pl χ M d h h0 hpl hM
 have hEl:=ea_len qs cs bs hs d h
 have hAl:(arcsG qs cs bs hs d).length = (arcsE qs cs bs hs d).length:=by unfold arcsG; rw [List.length_map]
 have hone:∀ z n (xs:List Value) (χ:PH),OwnS 55 3 z n xs χ → z.oneCell' = true:=fun z n xs χ h=>by obtain ⟨_,_,rfl⟩:=h.form; rfl
 refine AB ?_;refine AO ?_;refine AO ?_;refine AC ?_;refine AC ?_;refine AE ?_;refine AD ?_;refine AD ?_;refine AA ?_;refine AB ?_;refine BB ?_;refine AE ?_;refine AN rfl ?_;refine AL ?_;refine AD ?_;refine AA ?_;refine AB ?_;refine BW hg rfl rfl rdZ rfl rfl ?_;rintro _ σg ⟨ug,rfl,hOg⟩
 have hAt:ArcsAt σg ug (arcsG qs cs bs hs d):=hOg.at
 obtain ⟨pg,kg,rfl⟩:=hOg.form
 refine AS (ρ:=σg) takeZ ?_;refine AY ?_; rintro _ _ ⟨b,rfl,rfl⟩;refine AW ?_; rintro _ _ ⟨rfl,rfl⟩;refine AE ?_;refine AD ?_;refine AD ?_;refine AA ?_;refine AG ?_;refine AF ?_;refine AG ?_;refine AF ?_;refine AF ?_;refine AG ?_;refine AF ?_;refine AG ?_;refine AF ?_
 revert b; intro bg
 refine AS (ρ:=sng bg _) takeZ ?_
 have gg0:rdc (sng bg (.cells #[int (vsN qs d),.slice pg (arcsG qs cs bs hs d).length kg,int (vtx d d.s d.r),int (vtx d d.d d.e)] 69 (0,0))) bg 0 = some (int (vsN qs d)):=by rw [rdc_sng]; rfl
 have gg1:rdc (sng bg (.cells #[int (vsN qs d),.slice pg (arcsG qs cs bs hs d).length kg,int (vtx d d.s d.r),int (vtx d d.d d.e)] 69 (0,0))) bg 1 = some (.slice pg (arcsG qs cs bs hs d).length kg):=by rw [rdc_sng]; rfl
 have gg2:rdc (sng bg (.cells #[int (vsN qs d),.slice pg (arcsG qs cs bs hs d).length kg,int (vtx d d.s d.r),int (vtx d d.d d.e)] 69 (0,0))) bg 2 = some (int (vtx d d.s d.r)):=by rw [rdc_sng]; rfl
 have gg3:rdc (sng bg (.cells #[int (vsN qs d),.slice pg (arcsG qs cs bs hs d).length kg,int (vtx d d.s d.r),int (vtx d d.d d.e)] 69 (0,0))) bg 3 = some (int (vtx d d.d d.e)):=by rw [rdc_sng]; rfl
 have hval:=flowValue_spec σg ω _ _ (vsN qs d) (vtx d d.s d.r) (vtx d d.d d.e) (arcsG qs cs bs hs d) fl hAt hu (by omega)
 skip
 refine A2 hval rfl rfl rdZ rfl rfl ?_;rintro _ rfl;rw [← hEv]
 generalize (Go.Flow.valueSpec (vsN qs d) (arcsG qs cs bs hs d) fl (vtx d d.s d.r) (vtx d d.d d.e)).1 = vv
 by_cases hz:shipsE qs cs bs hs d fl = 0
 rotate_left
 ·have hR:shipsR qs cs bs hs d fl = []:=by unfold shipsR; rw [if_neg hz]
  rw [hR];refine AB ?_;refine AO ?_;refine AO ?_;refine AC ?_;refine AC ?_;refine AE ?_;refine AD ?_;refine AA ?_;refine AB ?_;refine CG ?_;refine AE ?_;refine AM rfl ?_;refine AD ?_;refine AA ?_;refine AB ?_;refine AC ?_;refine AC ?_;refine AE ?_;exact AI (res2 rfl rfl rfl) rsubZ selZ ⟨emp,⟨_,rfl,OwnS.nil _ _⟩,rfl⟩
 have hR:shipsR qs cs bs hs d fl = shipsF (arcsE qs cs bs hs d) fl:=by unfold shipsR; rw [if_pos hz]
 have hfl:=shipsE_len hv hz
 rw [hz,hR];refine AB ?_;refine AO ?_;refine AO ?_;refine AC ?_;refine AC ?_;refine AE ?_;refine AD ?_;refine AA ?_;refine AB ?_;refine BG ?_;refine AE ?_;refine AN rfl ?_;refine AL ?_;refine AD ?_;refine AA ?_;refine BP ?_; rintro _ _ ⟨b,rfl,rfl⟩;refine AE ?_;refine AD ?_;refine AA ?_;refine BP ?_; rintro _ _ ⟨b,rfl,rfl⟩;refine A7 ?_; rintro _ _ ⟨rfl,rfl⟩;refine AE ?_;refine AD ?_;refine AD ?_;refine AA ?_;refine AB ?_
 revert b; intro b14
 revert b; intro b13
 refine BE (arcs_spec bw) rfl rfl Takes.nil (fun τ hτ=>by simp at hτ) rfl rfl ?_
 rintro _ _ ⟨c1,rfl,rfl⟩;refine AS (ρ:=sng c1 _) takeZ ?_;refine AE ?_;refine AP ?_
 refine CX (gf:=102) (cap:=[.pointer (some ⟨c1,0,none⟩)]) (ps:=[44]) (X:=Nat × Value × PH) rfl Tryz.func102 rfl rfl
  (hit c1) ?_
  (fun i x=>x.1 = i ∧ OwnS 55 3 x.2.1 (shipsF ((arcsE qs cs bs hs d).take i) (fl.take i)).length ((shipsF ((arcsE qs cs bs hs d).take i) (fl.take i)).flatMap encX) x.2.2)
  (fun x=>[sng b14 (.cells #[int x.1] 3 (0,0)),sng b13 (.cells #[x.2.1] 37 (0,0)),x.2.2]) (fun _ _=>False) (0,.slice none 0 0,emp) rfl takesZ ⟨rfl,OwnS.nil _ _⟩ ?_ ?_ ?_
 ·intro σ' hσ
  simp only [List.mem_cons,List.not_mem_nil,or_false] at hσ ⊢
  rcases hσ with h | h | h | h | h | h | h | h <;> simp [h]
 ·rintro lo r i ⟨i',u,σ1⟩ vs hvs ⟨hi',hO1⟩ hps has hbd hst hpe hfr
  obtain ⟨st,pe,fnn,tm,prm,asg,bdy,df⟩:=r
  simp only at hps has hbd hst hpe hfr;subst hps has hbd hst hpe;rw [List.getElem?_map] at hvs
  obtain ⟨x,hx,rfl⟩:=Option.map_eq_some_iff.1 hvs
  dsimp only at hi' hO1
  subst hi'
  have hil:=(List.getElem?_eq_some_iff.1 hx).1
  have hy:=List.getElem?_eq_getElem (show i' < fl.length by omega)
  have hnx:=shipsF_next hfl hx hy
  obtain ⟨bo,oo,epf,gf⟩:=hrf.int hy
  have hsl:=shipsF_len ((arcsE qs cs bs hs d).take i') (fl.take i')
  rw [List.length_take] at hsl;simp only [hnx]
  generalize fl[i'] = y at hy gf hnx
  generalize shipsF ((arcsE qs cs bs hs d).take i') (fl.take i') = O at hO1 hsl
  have hu1:=hone _ _ _ _ hO1
  subst epf
  refine yield_spec hfr rfl (by intro p hp; simp at hp; omega) putiZ (fun N' β'=>?_)
  dsimp only
  refine AA ?_;refine AY ?_; rintro _ _ ⟨b,rfl,rfl⟩;refine AW ?_; rintro _ _ ⟨rfl,rfl⟩;refine AE ?_;refine CK rfl rfl ?_;refine CU takeZ rfl ?_
  revert b; intro bx
  refine AS (ρ:=sng bx _) takeZ ?_
  have px0:rdc (sng bx (.cells #[int x.a.f,int x.a.t,int x.a.c,int x.c,int x.t] 150 (0,0))) bx 0 = some (int x.a.f):=by rw [rdc_sng]; rfl
  have px1:rdc (sng bx (.cells #[int x.a.f,int x.a.t,int x.a.c,int x.c,int x.t] 150 (0,0))) bx 1 = some (int x.a.t):=by rw [rdc_sng]; rfl
  have px2:rdc (sng bx (.cells #[int x.a.f,int x.a.t,int x.a.c,int x.c,int x.t] 150 (0,0))) bx 2 = some (int x.a.c):=by rw [rdc_sng]; rfl
  have px3:rdc (sng bx (.cells #[int x.a.f,int x.a.t,int x.a.c,int x.c,int x.t] 150 (0,0))) bx 3 = some (int x.c):=by rw [rdc_sng]; rfl
  have px4:rdc (sng bx (.cells #[int x.a.f,int x.a.t,int x.a.c,int x.c,int x.t] 150 (0,0))) bx 4 = some (int x.t):=by rw [rdc_sng]; rfl
  by_cases hc:0 ≤ x.c
  ·by_cases hy0:0 < y
   ·rw [if_pos ⟨hc,hy0⟩]
    refine AP ?_;refine AD ?_;refine AD ?_;refine AA ?_;refine AG ?_;refine AF ?_;refine B7 ?_;refine AB ?_;refine AF ?_;refine AF ?_;refine BS ?_;refine AF ?_;refine CJ ?_;refine AK ?_;refine AE ?_;refine AM rfl ?_
    refine A5 (.q 0 (.q 1 (.q 2 (.q 3 (.q 4 (.q 5 (.q 6 (.q 7 (.q 8 (.q 9 (.l 10 .e (.l 11 .b (.l 12 .b .nil))))))))))))) [] rfl (by kernel_rfl) Sel.nil ?_
    refine AQ ?_;refine AU ?_;refine AQ ?_;refine AU ?_;refine AQ ?_;refine AQ ?_;refine AQ ?_;refine CY ?_;refine AQ ?_;refine CQ ?_;refine B4 ?_; rintro _ _ ⟨b,rfl,rfl⟩
    refine CN (a_b rfl (BZ (by_:=24) (s:=3) (news:=[int x.c,int x.t,int y]) rfl rfl rfl rfl rfl rfl rfl hO1 takeZ (cells_own memZ) rfl (by (repeat (first | exact (fun v hv=>absurd hv List.not_mem_nil) | (refine List.forall_mem_cons.2 ⟨?_,?_⟩; (focus (first | exact rfl | assumption))))); first | done | fail) (by omega) (by simp only [maxLen]; omega) (by omega)) rfl rfl rfl (fun _ _ _ w hw=>hw.sel Sel.nil) ?_)
    rintro u1 _ ⟨σ2,hO2,rfl⟩
    have hu2:=hone _ _ _ _ hO2
    refine DB ?_; rintro _ _ ⟨rfl,rfl⟩;refine A6 ?_;refine AA ?_;refine AF ?_;refine A9 ?_;refine A7 ?_; rintro _ _ ⟨rfl,rfl⟩;refine AE ?_;refine A4 ?_;refine BO takeZ rsubZ selZ ⟨(i' + 1,u1,σ2),.inl ⟨rfl,⟨rfl,?_⟩,rfl⟩⟩
    dsimp only
    rw [List.length_append,List.flatMap_append];exact hO2
   ·rw [if_neg (fun h=>hy0 h.2),List.append_nil]
    refine AP ?_;refine AD ?_;refine AD ?_;refine AA ?_;refine AG ?_;refine AF ?_;refine B7 ?_;refine AB ?_;refine AF ?_;refine AF ?_;refine BS ?_;refine AF ?_;refine BX ?_;refine AK ?_;refine AE ?_;refine AN rfl ?_;refine AL ?_;refine AA ?_;refine AF ?_;refine A9 ?_;refine A7 ?_; rintro _ _ ⟨rfl,rfl⟩;refine AE ?_;refine A4 ?_;exact BO takeZ rsubZ selZ ⟨(i' + 1,u,σ1),.inl ⟨rfl,⟨rfl,hO1⟩,rfl⟩⟩
  ·rw [if_neg (fun h=>hc h.1),List.append_nil]
   refine AP ?_;refine AD ?_;refine AD ?_;refine AA ?_;refine AG ?_;refine AF ?_;refine BJ ?_;refine AB ?_;refine AH rfl rfl rfl ?_;refine AH rfl rfl rfl ?_;refine AH rfl rfl rfl ?_;refine AH rfl rfl rfl ?_;refine AH rfl rfl rfl ?_;refine AJ ?_;refine AE ?_;refine AN rfl ?_;refine AL ?_;refine AA ?_;refine AF ?_;refine A9 ?_;refine A7 ?_; rintro _ _ ⟨rfl,rfl⟩;refine AE ?_;refine A4 ?_;exact BO takeZ rsubZ selZ ⟨(i' + 1,u,σ1),.inl ⟨rfl,⟨rfl,hO1⟩,rfl⟩⟩
 ·rintro b9 ⟨i',u,σ1⟩ ⟨_,hO1⟩
  rw [List.length_map,List.take_length,← hfl,List.take_length] at hO1
  dsimp only at hO1
  have hu1:=hone _ _ _ _ hO1
  refine A4 ?_;refine AD ?_;refine AA ?_;refine AF ?_;refine AC ?_;refine AC ?_;refine AE ?_;refine D0 (v:=.tuple #[u,int 0]) (Marks.cons .here .nil) ?_ rsubZ ?_ ⟨σ1,⟨u,rfl,hO1⟩,rfl⟩
  ·exact res2 rfl rfl rfl
  ·exact selZ
 ·rintro _ _ _ h; exact h.elim
end Go.Proofs.YtphehihohghfoaaGreat
/- Slices of sets. -/
namespace Go.Proofs.YtphehihohghfoaaGreat
open Go.Eng Go.Step
set_option maxRecDepth 100000
set_option maxHeartbeats 4000000

abbrev Sq:=(Option Addr × Nat) × List (Int × Int)
def encQ (x:Sq):List Value:=[.slice x.1.1 x.2.length x.1.2]
theorem encQ_len (x:Sq):(encQ x).length = 1:=rfl
abbrev cuL (L:List Sq):Cu:=L.map (fun x=>x.2)
def CutL (γ κ:PH) (v:Value) (L:List Sq):Prop:=SlE encQ 1 γ v L ∧ ∀ x ∈ L,SpAt κ (.slice x.1.1 x.2.length x.1.2) x.2 ∧ x.2.length ≤ 9223372036854775807
theorem CutL.row {γ κ:PH} {p:Option Addr} {n kk:Nat} {L:List Sq} (h:CutL γ κ (.slice p n kk) L):CutRow γ κ p (cuL L):=fun i l hl=>by
 rw [List.getElem?_map] at hl
 obtain ⟨x,hx,rfl⟩:=Option.map_eq_some_iff.1 hl
 obtain ⟨q,k,e,hr⟩:=h.1.val encQ_len
 simp only [Value.slice.injEq] at e
 obtain ⟨b,o,e2,hrd⟩:=hr i x hx
 obtain ⟨h1,h2⟩:=h.2 x (List.mem_of_getElem? hx)
 refine ⟨b,o,x.1.1,x.1.2,by rw [e.1,e2],?_,h1,h2⟩
 have:=hrd 0 _ rfl
 rwa [Nat.mul_one,Nat.add_zero] at this
end Go.Proofs.YtphehihohghfoaaGreat
/- The ends of two sets, in their order. -/
namespace Go.Proofs.YtphehihohghfoaaGreat
open Go.Eng Go.Step
set_option maxRecDepth 100000
set_option maxHeartbeats 4000000

theorem sideNext_spec (ρ:PH) (v:Value) (l:Iv) (b p:Nat) (hv:SpAt ρ v l) (hl:l.length ≤ 4611686018427387903) (hp:p ≤ 2 * l.length) :
  Ans Tryz.prog (fv 150) [.pointer (some ⟨b,0,none⟩)] [sng b (.cells #[v,int ((p / 2:Nat):Int),.bool (oddB p)] 232 (0,0)),ρ] (fun r=>r = .tuple #[int ((tog l).getD p 0),.bool (decide (p < 2 * l.length))]):=by
 obtain ⟨q,c,rfl,hr⟩:=hv.val encS_len
 have hod:=oddB_cases p
 obtain ⟨i,hi⟩:∃ i,p / 2 = i:=⟨_,rfl⟩
 rw [hi] at hod ⊢
 have ct:RdN (sng b (.cells #[.slice q l.length c,int ((i:Nat):Int),.bool (oddB p)] 232 (0,0))) b 0 [.slice q l.length c,int ((i:Nat):Int),.bool (oddB p)]:=rdN_sng (vs:=[.slice q l.length c,int ((i:Nat):Int),.bool (oddB p)])
 have ct0:rdc (sng b (.cells #[.slice q l.length c,int ((i:Nat):Int),.bool (oddB p)] 232 (0,0))) b 0 = some (.slice q l.length c):=by rw [rdc_sng]; rfl
 have ct1:rdc (sng b (.cells #[.slice q l.length c,int ((i:Nat):Int),.bool (oddB p)] 232 (0,0))) b 1 = some (int ((i:Nat):Int)):=by rw [rdc_sng]; rfl
 have ct2:rdc (sng b (.cells #[.slice q l.length c,int ((i:Nat):Int),.bool (oddB p)] 232 (0,0))) b 2 = some (.bool (oddB p)):=by rw [rdc_sng]; rfl
 refine spec_in (cap:=[]) Tryz.func150 rfl rfl Tryz.ntmps150 rfl envZ (fun N β=>?_)
 by_cases h0:p = 2 * l.length
 ·have hR:(tog l).getD p 0 = 0:=by rw [List.getD_eq_getElem?_getD,List.getElem?_eq_none (by rw [tog_len]; omega)]; rfl
  rw [hR,decide_eq_false (by omega)]
  have hil:i = l.length:=by omega
  refine AD ?_;refine AA ?_;refine AC ?_;refine AC ?_;refine AE ?_;refine AD ?_;refine AP ?_;refine AD ?_
  refine A5 (.q 0 (.q 1 (.q 2 (.q 3 (.q 4 (.q 5 (.q 6 (.q 7 (.q 8 (.q 9 (.q 10 .nil))))))))))) [] rfl (by kernel_rfl) selZ ?_
  refine AR ?_;refine A0 ?_;refine AU ?_;refine AQ ?_;refine AR ?_;refine A0 ?_;refine AU ?_;refine AQ ?_;refine EH ?_;refine EI ?_;refine BT ?_;refine A6 ?_;refine AM rfl ?_;refine AD ?_;refine AA ?_;refine AC ?_;refine AC ?_;refine AE ?_;exact AI (res2 rfl rfl rfl) rsubZ selZ ⟨rfl,rfl⟩
 have hil:i < l.length:=by omega
 obtain ⟨g1,g2⟩:=tog_get l i _ (List.getElem?_eq_getElem hil)
 rw [decide_eq_true (show p < 2 * l.length by omega)]
 obtain ⟨b4,o4,rfl,hrd,x0,x1⟩:=spRow hr (List.getElem?_eq_getElem hil)
 rcases hod with ⟨ho,hp2⟩ | ⟨ho,hp2⟩
 ·have hR:(tog l).getD p 0 = l[i].2:=by rw [List.getD_eq_getElem?_getD,hp2,g2]; rfl
  rw [hR];rw [ho] at ct ct0 ct1 ct2 ⊢
  generalize l[i] = x at hrd x0 x1
  refine AD ?_;refine AA ?_;refine AC ?_;refine AC ?_;refine AE ?_;refine AD ?_;refine AP ?_;refine AD ?_
  refine A5 (.q 0 (.q 1 (.q 2 (.q 3 (.q 4 (.q 5 (.q 6 (.q 7 (.q 8 (.q 9 (.q 10 .nil))))))))))) [] rfl (by kernel_rfl) selZ ?_
  refine AR ?_;refine A0 ?_;refine AU ?_;refine AQ ?_;refine AR ?_;refine A0 ?_;refine AU ?_;refine AQ ?_;refine EH ?_;refine C5 ?_;refine BT ?_;refine A6 ?_;refine AN rfl ?_;refine AD ?_;refine AA ?_;refine AB ?_;refine BM ?_;refine AG ?_;refine AF ?_;refine AC ?_;refine AE ?_;refine AM rfl ?_;refine AD ?_
  refine A5 (.q 0 (.q 1 (.q 2 (.q 3 (.q 4 (.q 5 (.q 6 (.q 7 (.q 8 (.q 9 (.q 10 (.q 11 (.q 12 .nil))))))))))))) [] rfl (by kernel_rfl) selZ ?_
  refine AR ?_;refine A0 ?_;refine AU ?_;refine AQ ?_;refine AR ?_;refine A0 ?_;refine AU ?_;refine AQ ?_;refine BI ?_;refine CD ?_;refine AQ ?_;refine BT ?_;refine BT ?_;refine A6 ?_
  skip
  exact AI (res2 rfl rfl rfl) rsubZ selZ ⟨rfl,rfl⟩
 ·have hR:(tog l).getD p 0 = l[i].1:=by rw [List.getD_eq_getElem?_getD,hp2,g1]; rfl
  rw [hR];rw [ho] at ct ct0 ct1 ct2 ⊢
  generalize l[i] = x at hrd x0 x1
  refine AD ?_;refine AA ?_;refine AC ?_;refine AC ?_;refine AE ?_;refine AD ?_;refine AP ?_;refine AD ?_
  refine A5 (.q 0 (.q 1 (.q 2 (.q 3 (.q 4 (.q 5 (.q 6 (.q 7 (.q 8 (.q 9 (.q 10 .nil))))))))))) [] rfl (by kernel_rfl) selZ ?_
  refine AR ?_;refine A0 ?_;refine AU ?_;refine AQ ?_;refine AR ?_;refine A0 ?_;refine AU ?_;refine AQ ?_;refine EH ?_;refine C5 ?_;refine BT ?_;refine A6 ?_;refine AN rfl ?_;refine AD ?_;refine AA ?_;refine AB ?_;refine BM ?_;refine AG ?_;refine AF ?_;refine AC ?_;refine AE ?_;refine AN rfl ?_;refine AL ?_;refine A4 ?_;refine AD ?_
  refine A5 (.q 0 (.q 1 (.q 2 (.q 3 (.q 4 (.q 5 (.q 6 (.q 7 (.q 8 (.q 9 (.q 10 (.q 11 (.q 12 .nil))))))))))))) [] rfl (by kernel_rfl) selZ ?_
  refine AR ?_;refine A0 ?_;refine AU ?_;refine AQ ?_;refine AR ?_;refine A0 ?_;refine AU ?_;refine AQ ?_;refine BI ?_;refine B6 ?_;refine AQ ?_;refine BT ?_;refine BT ?_;refine A6 ?_
  skip
  exact AI (res2 rfl rfl rfl) rsubZ selZ ⟨rfl,rfl⟩
set_option maxHeartbeats 16000000 in
theorem sidePass_spec (ρ:PH) (v:Value) (l:Iv) (b p:Nat) (t:Int) (hv:SpAt ρ v l) (hl:l.length ≤ 4611686018427387903) (hp:p ≤ 2 * l.length) :
  Eng.Spec Tryz.prog (fv 151) [.pointer (some ⟨b,0,none⟩),int t] [ρ] [sng b (.cells #[v,int ((p / 2:Nat):Int),.bool (oddB p)] 232 (0,0))] (fun r H'=>r = .tuple #[] ∧ H' = [sng b (.cells #[v,int ((stp (tog l) t p / 2:Nat):Int),.bool (oddB (stp (tog l) t p))] 232 (0,0))]):=by
 have hn:=sideNext_spec ρ v l b p hv hl hp
 obtain ⟨q,c,rfl,hr⟩:=hv.val encS_len
 refine spec_in (cap:=[]) Tryz.func151 rfl rfl Tryz.ntmps151 rfl envZ (fun N β=>?_)
 refine AD ?_;refine AD ?_;refine AA ?_;refine AB ?_;refine A2 hn rfl rfl rdZ rfl rfl ?_;rintro _ rfl
 by_cases h1:p < 2 * l.length
 rotate_left
 ·have hs:stp (tog l) t p = p:=by unfold stp; rw [if_neg (by rw [tog_len]; omega)]
  rw [hs,decide_eq_false h1];refine AB ?_;refine AO ?_;refine AO ?_;refine AC ?_;refine AC ?_;refine AE ?_;refine AD ?_;refine AA ?_;refine AB ?_;refine BB ?_;refine AB ?_;refine AH rfl rfl rfl ?_;refine AH rfl rfl rfl ?_;refine AH rfl rfl rfl ?_;refine AK ?_;refine AE ?_;refine AM rfl ?_;exact AI (res0 rfl) rsubZ selZ ⟨rfl,rfl⟩
 rw [decide_eq_true h1]
 by_cases h2:(tog l).getD p 0 = t
 rotate_left
 ·have hs:stp (tog l) t p = p:=by unfold stp; rw [if_neg (fun h=>h2 h.2)]
  rw [hs]
  generalize (tog l).getD p 0 = z at h2
  refine AB ?_;refine AO ?_;refine AO ?_;refine AC ?_;refine AC ?_;refine AE ?_;refine AD ?_;refine AA ?_;refine AB ?_;refine BB ?_;refine AB ?_;refine AB ?_;refine AB ?_;refine CG ?_;refine AJ ?_;refine AE ?_;refine AM rfl ?_;exact AI (res0 rfl) rsubZ selZ ⟨rfl,rfl⟩
 have hs:stp (tog l) t p = p + 1:=by unfold stp; rw [if_pos ⟨by rw [tog_len]; exact h1,h2⟩]
 rw [hs,h2]
 have hod:=oddB_cases p
 have hi2:(p + 1) / 2 = if oddB p = true then p / 2 + 1 else p / 2:=by
  rcases hod with ⟨ho,hp2⟩ | ⟨ho,hp2⟩
  ·rw [if_pos ho]; omega
  ·rw [if_neg (by rw [ho]; simp)]; omega
 rw [hi2,oddB_succ]
 obtain ⟨i,hi⟩:∃ i,p / 2 = i:=⟨_,rfl⟩
 rw [hi] at hod ⊢;clear hn
 rcases hod with ⟨ho,hp2⟩ | ⟨ho,hp2⟩
 ·rw [ho,if_pos rfl]
  refine AB ?_;refine AO ?_;refine AO ?_;refine AC ?_;refine AC ?_;refine AE ?_;refine AD ?_;refine AA ?_;refine AB ?_;refine BB ?_;refine AB ?_;refine AB ?_;refine AB ?_;refine BG ?_;refine AJ ?_;refine AE ?_;refine AN rfl ?_;refine AL ?_;refine AD ?_;refine AD ?_;refine AA ?_;refine AB ?_;refine BM ?_;refine AG ?_;refine AF ?_;refine AE ?_;refine AM rfl ?_;refine AA ?_;refine AB ?_;refine BM ?_;refine AG ?_;refine AF ?_;refine A9 ?_;refine BM ?_;refine AG ?_;refine A7 ?_; rintro _ _ ⟨rfl,rfl⟩;refine AE ?_;refine AA ?_;refine AB ?_;refine AB ?_;refine BM ?_;refine AG ?_;refine AF ?_;refine BB ?_;refine BM ?_;refine AG ?_;refine A7 ?_; rintro _ _ ⟨rfl,rfl⟩;refine AE ?_;exact CA (res0 rfl) rsubZ selZ ⟨rfl,rfl⟩
 ·rw [ho,if_neg (by simp)]
  refine AB ?_;refine AO ?_;refine AO ?_;refine AC ?_;refine AC ?_;refine AE ?_;refine AD ?_;refine AA ?_;refine AB ?_;refine BB ?_;refine AB ?_;refine AB ?_;refine AB ?_;refine BG ?_;refine AJ ?_;refine AE ?_;refine AN rfl ?_;refine AL ?_;refine AD ?_;refine AD ?_;refine AA ?_;refine AB ?_;refine BM ?_;refine AG ?_;refine AF ?_;refine AE ?_;refine AN rfl ?_;refine AL ?_;refine AA ?_;refine AB ?_;refine AB ?_;refine BM ?_;refine AG ?_;refine AF ?_;refine BB ?_;refine BM ?_;refine AG ?_;refine A7 ?_; rintro _ _ ⟨rfl,rfl⟩;refine AE ?_;exact CA (res0 rfl) rsubZ selZ ⟨rfl,rfl⟩
end Go.Proofs.YtphehihohghfoaaGreat
