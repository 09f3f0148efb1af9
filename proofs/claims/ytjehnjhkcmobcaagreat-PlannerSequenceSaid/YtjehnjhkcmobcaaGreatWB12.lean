/- Texts of this proof, one after the other; no conditions. -/
import Derived.Test.YtjehnjhkcmobcaaGreatWB11
import Derived.Test.YtjehnjhkcmobcaaGreatWB3
import Derived.Test.YtjehnjhkcmobcaaGreatWB9
import Derived.Test.YtjehnjhkcmobcaaGreatWB10
import Derived.Test.YtjehnjhkcmobcaaGreatWB7
import Derived.Test.YtjehnjhkcmobcaaGreatWB5
import Derived.Test.YtjehnjhkcmobcaaGreatWB2
import Derived.Test.YtjehnjhkcmobcaaGreatWB6
import Derived.Test.YtjehnjhkcmobcaaGreatWB1
set_option linter.all false
/- The arcs, one after the other. -/
namespace Go.Proofs.YtjehnjhkcmobcaaGreat
open Go.Eng Go.Step
set_option maxRecDepth 100000
set_option maxHeartbeats 4000000

def encEA (x:EA):List Value:=[.agg #[int x.a.f,int x.a.t,int x.a.c,int x.c,int x.t]]
theorem arcs_spec (bw:Nat) :
  Eng.Spec Tryz.prog (fv 79) [.pointer (some ⟨bw,0,none⟩)] [] [] (fun r H'=>∃ c1,r = .func (.func 131) #[] #[.pointer (some ⟨c1,0,none⟩)] ∧ H' = [sng c1 (.cells #[.pointer (some ⟨bw,0,none⟩)] 137 (0,0))]):=by
 refine spec_in (cap:=[]) Tryz.func79 rfl rfl Tryz.ntmps79 rfl envZ (fun N β=>?_)
 refine Aa ?_;refine BH (DC rfl rfl) rfl rfl rfl ?_;rintro _ _ ⟨c1,rfl,rfl⟩;refine Aaa ?_;refine Aa ?_;refine CA ?_;refine Aaa ?_;exact AI (res1 rfl rfl) rsubZ selZ ⟨c1,rfl,rfl⟩
theorem numAt_get {d:Dm} {N:Nat} {M:List (List Int × Value)} (h:NumAt d N d.r M) {n t:Int} (h0:0 ≤ n) (hn:n < N) (h1:d.r ≤ t) (h2:t ≤ d.e):mgetS [n,t] M = some (int (vtx d n t)):=by
 rw [h.2,if_pos (by omega)]
set_option maxHeartbeats 64000000 in
theorem arcs_iter {ρ τ σ υ:PH} {pq pc pb ph:Option Addr} {kq kc kb kh:Nat} {qs:List Int} {cs:List Ct} {bs:List Bk} {hs:List Hd} (hT:TbAt ρ τ σ υ pq pc pb ph kq kc kb kh qs cs bs hs) (bw bm c1 kp:Nat) (pl:Option Addr) (χ:PH) (M:List (List Int × Value)) (d:Dm) (h:VOk qs cs bs hs d) (h0:chkB qs cs bs = 0) (hpl:SlE encS 2 χ (.slice pl (placesA d qs.length).length kp) (placesA d qs.length)) (hM:NumAt d qs.length d.r M) :
  Iter Tryz.prog (.func (.func 131) #[] #[.pointer (some ⟨c1,0,none⟩)]) [sng c1 (.cells #[.pointer (some ⟨bw,0,none⟩)] 137 (0,0)),sng bw (.cells #[.slice pq qs.length kq,.slice pc cs.length kc,.slice pb bs.length kb,.slice ph hs.length kh,int d.s,int d.d,int d.v,int d.r,int d.e,.slice pl (placesA d qs.length).length kp,.map (some bm)] 147 (0,0)),sng bm (mapS M),χ,ρ,τ,σ,υ] ((arcsE qs cs bs hs d).map encEA):=by
 intro y S Own Inv Stop Ry hy hyl σ0 hI0
 obtain ⟨yl,rfl⟩:=hyl
 have hdm:=h.dm
 unfold okDm at hdm
 have hnq:=h.nq
 have hnc:=h.nc
 have hMl:=hM.1
 have hW:2 ≤ (wd d).toNat ∧ (wd d).toNat = (d.e - d.r).toNat + 1:=by unfold wd; omega
 have hplen:=placesA_len (d:=d) (by omega) qs.length
 have hpb:(placesA d qs.length).length ≤ 1616:=by
  have:=h.vs
  unfold vsN at this;omega
 obtain ⟨_,_,ep,hrp⟩:=hpl.val encS_len
 simp only [Value.slice.injEq] at ep
 obtain ⟨rfl,_,rfl⟩:=ep
 have w0:rdc (sng bw (.cells #[.slice pq qs.length kq,.slice pc cs.length kc,.slice pb bs.length kb,.slice ph hs.length kh,int d.s,int d.d,int d.v,int d.r,int d.e,.slice pl (placesA d qs.length).length kp,.map (some bm)] 147 (0,0))) bw 0 = some (.slice pq qs.length kq):=by rw [rdc_sng]; rfl
 have w1:rdc (sng bw (.cells #[.slice pq qs.length kq,.slice pc cs.length kc,.slice pb bs.length kb,.slice ph hs.length kh,int d.s,int d.d,int d.v,int d.r,int d.e,.slice pl (placesA d qs.length).length kp,.map (some bm)] 147 (0,0))) bw 1 = some (.slice pc cs.length kc):=by rw [rdc_sng]; rfl
 have w2:rdc (sng bw (.cells #[.slice pq qs.length kq,.slice pc cs.length kc,.slice pb bs.length kb,.slice ph hs.length kh,int d.s,int d.d,int d.v,int d.r,int d.e,.slice pl (placesA d qs.length).length kp,.map (some bm)] 147 (0,0))) bw 2 = some (.slice pb bs.length kb):=by rw [rdc_sng]; rfl
 have w3:rdc (sng bw (.cells #[.slice pq qs.length kq,.slice pc cs.length kc,.slice pb bs.length kb,.slice ph hs.length kh,int d.s,int d.d,int d.v,int d.r,int d.e,.slice pl (placesA d qs.length).length kp,.map (some bm)] 147 (0,0))) bw 3 = some (.slice ph hs.length kh):=by rw [rdc_sng]; rfl
 have w4:rdc (sng bw (.cells #[.slice pq qs.length kq,.slice pc cs.length kc,.slice pb bs.length kb,.slice ph hs.length kh,int d.s,int d.d,int d.v,int d.r,int d.e,.slice pl (placesA d qs.length).length kp,.map (some bm)] 147 (0,0))) bw 4 = some (int d.s):=by rw [rdc_sng]; rfl
 have w5:rdc (sng bw (.cells #[.slice pq qs.length kq,.slice pc cs.length kc,.slice pb bs.length kb,.slice ph hs.length kh,int d.s,int d.d,int d.v,int d.r,int d.e,.slice pl (placesA d qs.length).length kp,.map (some bm)] 147 (0,0))) bw 5 = some (int d.d):=by rw [rdc_sng]; rfl
 have w6:rdc (sng bw (.cells #[.slice pq qs.length kq,.slice pc cs.length kc,.slice pb bs.length kb,.slice ph hs.length kh,int d.s,int d.d,int d.v,int d.r,int d.e,.slice pl (placesA d qs.length).length kp,.map (some bm)] 147 (0,0))) bw 6 = some (int d.v):=by rw [rdc_sng]; rfl
 have w7:rdc (sng bw (.cells #[.slice pq qs.length kq,.slice pc cs.length kc,.slice pb bs.length kb,.slice ph hs.length kh,int d.s,int d.d,int d.v,int d.r,int d.e,.slice pl (placesA d qs.length).length kp,.map (some bm)] 147 (0,0))) bw 7 = some (int d.r):=by rw [rdc_sng]; rfl
 have w8:rdc (sng bw (.cells #[.slice pq qs.length kq,.slice pc cs.length kc,.slice pb bs.length kb,.slice ph hs.length kh,int d.s,int d.d,int d.v,int d.r,int d.e,.slice pl (placesA d qs.length).length kp,.map (some bm)] 147 (0,0))) bw 8 = some (int d.e):=by rw [rdc_sng]; rfl
 have w9:rdc (sng bw (.cells #[.slice pq qs.length kq,.slice pc cs.length kc,.slice pb bs.length kb,.slice ph hs.length kh,int d.s,int d.d,int d.v,int d.r,int d.e,.slice pl (placesA d qs.length).length kp,.map (some bm)] 147 (0,0))) bw 9 = some (.slice pl (placesA d qs.length).length kp):=by rw [rdc_sng]; rfl
 have w10:rdc (sng bw (.cells #[.slice pq qs.length kq,.slice pc cs.length kc,.slice pb bs.length kb,.slice ph hs.length kh,int d.s,int d.d,int d.v,int d.r,int d.e,.slice pl (placesA d qs.length).length kp,.map (some bm)] 147 (0,0))) bw 10 = some (.map (some bm)):=by rw [rdc_sng]; rfl
 have wp:RdP (sng bw (.cells #[.slice pq qs.length kq,.slice pc cs.length kc,.slice pb bs.length kb,.slice ph hs.length kh,int d.s,int d.d,int d.v,int d.r,int d.e,.slice pl (placesA d qs.length).length kp,.map (some bm)] 147 (0,0))) bw 0 [.slice pq qs.length kq,.slice pc cs.length kc]:=rdP_sng (xs:=[.slice pq qs.length kq,.slice pc cs.length kc,.slice pb bs.length kb,.slice ph hs.length kh,int d.s,int d.d,int d.v,int d.r,int d.e,.slice pl (placesA d qs.length).length kp,.map (some bm)]) rfl
 have v1:rdc (sng c1 (.cells #[.pointer (some ⟨bw,0,none⟩)] 137 (0,0))) c1 0 = some (.pointer (some ⟨bw,0,none⟩)):=by rw [rdc_sng]; rfl
 simp only [List.cons_append,List.nil_append]
 refine spec_in (cap:=[.pointer (some ⟨c1,0,none⟩)]) Tryz.func131 rfl rfl Tryz.ntmps131 rfl envZ (fun N β=>?_)
 refine Aa ?_;refine BH (DC rfl rfl) rfl rfl rfl ?_;rintro _ _ ⟨b2,rfl,rfl⟩;refine AT (ρ:=sng b2 _) takeZ ?_
 have v2:rdc (sng b2 (.cells #[yv yl] 220 (0,0))) b2 0 = some (yv yl):=by rw [rdc_sng]; rfl
 refine Aal ?_;refine Abk ?_;refine BX ?_;refine Ac ?_;refine Abd ?_
 refine BA [0,1,2,13,14] (X:=Nat × S) (0,σ0) (fun z=>z.1 ≤ (placesA d qs.length).length ∧ Inv (z.1 - z.1 / (wd d).toNat) z.2) (fun z=>[(15,int z.1)]) (fun z=>Own z.2) (fun z=>(placesA d qs.length).length - z.1) pickZ ⟨by dsimp only; omega,by dsimp only; rw [Nat.zero_sub]; exact hI0⟩ covZ Sel.refl ?_
 rintro ⟨k,σ'⟩ ⟨hk,hI⟩
 dsimp only at hk hI ⊢
 by_cases hlt:k < (placesA d qs.length).length
 ·obtain ⟨n,t,hn,ht1,ht2,hkv,hkn⟩:=place_of (d:=d) (by omega) (k:=k) (N:=qs.length) (by omega)
  have hx:=placesA_get (d:=d) (by omega) ht1 ht2 hn
  rw [← hkv,Int.toNat_natCast] at hx
  have hdiv:k / (wd d).toNat = n:=by
   rw [hkn,Nat.mul_comm,Nat.mul_add_div (by omega),Nat.div_eq_of_lt (by omega),Nat.add_zero]
  obtain ⟨b6,o6,rfl,hRd6,y0,y1⟩:=spRow hrp hx
  have hl1:=numAt_get hM (n:=n) (t:=t) (by omega) (by omega) ht1 ht2
  have hroom:=exRoom_spec hT bw bm (.slice (some ⟨b6,o6,none⟩) (placesA d qs.length).length kp) d h n t hn
  rw [hdiv] at hI
  by_cases hte:t = d.e
  ·have hnext:(k + 1) - (k + 1) / (wd d).toNat = k - n:=by
    have e:k + 1 = (n + 1) * (wd d).toNat:=by rw [Nat.add_mul,Nat.one_mul]; omega
    rw [e,Nat.mul_div_cancel _ (by omega)]
    omega
   refine Ab1 ?_;refine AY ?_; rintro _ _ ⟨b,rfl,rfl⟩;refine AU ?_; rintro _ _ ⟨rfl,rfl⟩;refine Aal ?_;refine AC ?_
   revert b; intro b4
   refine A8 (.q 0 (.q 1 (.q 2 (.q 3 (.q 4 (.q 5 (.q 6 (.q 7 .nil)))))))) [] rfl (by kernel_rfl) Sel.nil ?_
   refine Aar ?_;refine AR ?_;refine Adn ?_;refine Ab8 ?_;refine D9 ?_;refine Ab0 ?_;refine A6 rfl ?_;refine AA ?_;refine Aaz ?_
   exact AX (k + 1,σ') ⟨by dsimp only; omega,by dsimp only; rw [hnext]; exact hI⟩ (by dsimp only; omega) covZ (Sel.skip Sel.refl)
  have hl2:=numAt_get hM (n:=n) (t:=t + 1) (by omega) (by omega) (by omega) (by omega)
  have hnm:k - n = n * (d.e - d.r).toNat + (t - d.r).toNat:=by
   rw [hkn,hW.2,Nat.mul_add,Nat.mul_one];omega
  have hnext:(k + 1) - (k + 1) / (wd d).toNat = k - n + 1:=by
   have e:(k + 1) / (wd d).toNat = n:=by
    rw [show k + 1 = (wd d).toNat * n + ((t - d.r).toNat + 1) by rw [Nat.mul_comm]; omega,Nat.mul_add_div (by omega),Nat.div_eq_of_lt (by omega),Nat.add_zero]
   have:n ≤ k:=by
    have:=Nat.le_mul_of_pos_right n (show 0 < (wd d).toNat by omega)
    omega
   rw [e];omega
  have hat:=arcs_wait (qs:=qs) (cs:=cs) (bs:=bs) (hs:=hs) hn ht1 (show t < d.e by omega)
  rw [← hnm] at hat
  have hya:=hy _ σ' (encEA ⟨⟨vtx d n t,vtx d n (t + 1),roomT qs hs d n t⟩,-1,t⟩) (by rw [List.getElem?_map,hat]; rfl) hI
  refine Ab1 ?_;refine AY ?_; rintro _ _ ⟨b,rfl,rfl⟩;refine AU ?_; rintro _ _ ⟨rfl,rfl⟩;refine Aal ?_;refine AC ?_
  revert b; intro b4
  refine A8 (.q 0 (.q 1 (.q 2 (.q 3 (.q 4 (.q 5 (.q 6 (.q 7 .nil)))))))) [] rfl (by kernel_rfl) Sel.nil ?_
  refine Aar ?_;refine AR ?_;refine Adn ?_;refine Ab8 ?_;refine DD ?_;refine Aes ?_
  refine D4 (X:=Nat) [0,1,2,4,13,14,15] (fun _=>True) (fun x=>[(5,.pointer (some ⟨x,0,none⟩))]) (fun x=>sng x (.cells #[int (vtx d n t),int (vtx d n (t + 1)),int (roomT qs hs d n t)] 157 (0,0)) :: sng b4 (.cells #[int (n:Int),int t] 143 (0,0)) :: Own σ') pickZ ?_ ?_
  ·refine A8 (.q 0 (.q 1 (.q 2 (.q 3 (.q 4 (.q 5 (.q 6 (.q 7 (.q 8 (.q 9 (.q 10 (.q 11 (.q 12 (.q 13 (.q 14 (.q 15 (.q 16 (.q 17 (.q 18 (.l2 19 .e (.q 20 (.l 21 .e (.l 22 .b .nil))) 21 .e (.l 19 .e (.q 20 (.l 22 .b .nil))))))))))))))))))))))) [] rfl (by kernel_rfl) Sel.nil ?_
   repeat' (first
    | (refine AR ?_)
    | (refine AW ?_)
    | (refine A4 ?_)
    | (refine DK ?_)
    | (refine BQ ?_)
    | (refine C4 ?_)
    | (focus ((refine' CR rfl _ rfl rfl rfl rfl _; rotate_left; (focus (first | exact C3 2 [(n:Int),t] rfl rfl rfl ⟨by kernel_rfl,by kernel_rfl⟩ rfl hMl rfl hl1 (mapAtS_rd memZ) | exact C3 2 [(n:Int),t + 1] rfl rfl rfl ⟨by kernel_rfl,by kernel_rfl⟩ rfl hMl rfl hl2 (mapAtS_rd memZ))))))
    | (focus ((refine CC rfl hroom rfl rfl rdZ rfl rfl ?_; rintro _ rfl)))
    | (refine A5 ?_)
    | (refine C8 ?_ ?_)
    | (focus ((refine B7 (CC rfl hroom rfl rfl rdZ rfl rfl ?_); rintro _ rfl)))
    | (focus ((refine B7 ?_; refine' DI rfl _ rfl rfl _ _; rotate_left; (focus (apply BS; exact rfl; exact rfl; exact takeZ; exact (by (repeat (first | exact (fun v hv=>absurd hv List.not_mem_nil) | (refine List.forall_mem_cons.2 ⟨?_,?_⟩; (focus (first | exact rfl | assumption))))); first | done | fail); exact rfl; exact rfl)); (focus (rintro _ _ ⟨_,rfl⟩ w hw; exact hw.sel Sel.nil)); rintro _ _ ⟨rfl,rfl⟩)))
    | (refine C1 ?_; rintro _ _ ⟨b,rfl,rfl⟩)
    | (refine CF ?_; rintro _ _ ⟨b,rfl,rfl⟩)
    | fail)
   all_goals (refine BW _ trivial covZ Sel.refl)
  rintro b5 _;refine Abk ?_;refine AS ?_;refine Aac ?_;refine CH (BO (out:=[int (vtx d n t),int (vtx d n (t + 1)),int (roomT qs hs d n t),int (-1),int t]) rfl rfl rfl rfl rfl) rfl rfl rfl ?_
  refine BC hya rfl rfl (Takes.skip (Takes.skip Takes.all)) (fun τ hτ=>.inl (by simp [hτ])) rfl rfl ?_
  rintro _ H' ⟨σ3,rfl,⟨rfl,hI3⟩ | ⟨rfl,hSt⟩⟩
  ·refine CS (H':=_ :: _ :: Own σ3) (List.perm_append_comm (l₂:=[_,_])) ?_
   refine Acb ?_;refine Aa0 ?_
   exact AX (k + 1,σ3) ⟨by dsimp only; omega,by dsimp only; rw [hnext]; exact hI3⟩ (by dsimp only; omega) covZ (Sel.skip (Sel.skip Sel.refl))
  ·refine BE ?_
   refine Aah ?_
   exact AI (res0 rfl) (fun _ h=>List.mem_cons_of_mem _ h) Sel.left ⟨σ3,rfl,.inr hSt⟩
 have hke:k = (placesA d qs.length).length:=by omega
 subst hke
 have hcnt:(placesA d qs.length).length - (placesA d qs.length).length / (wd d).toNat = (waitA qs hs d qs.length).length:=by
  have e:(placesA d qs.length).length = qs.length * (wd d).toNat:=by
   have hw:(((wd d).toNat:Nat):Int) = wd d:=by unfold wd; omega
   have:(((placesA d qs.length).length:Nat):Int) = ((qs.length * (wd d).toNat:Nat):Int):=by rw [hplen,Int.natCast_mul,hw]
   omega
  rw [e,Nat.mul_div_cancel _ (by omega),waitA_len,hW.2,Nat.mul_add,Nat.mul_one]
  omega
 rw [hcnt] at hI;refine BY ?_;refine Abl ?_;refine Abk ?_;refine BX ?_;refine AG ?_;refine AG ?_;refine Ac ?_;refine Abd ?_
 refine DZ [0,1,2,61,62] (X:=Nat × S × (List Nat × PH)) (0,σ',([],emp)) (fun x=>x.2.2.1.map mk) (fun x=>x.1 ≤ cs.length ∧ Inv ((waitA qs hs d qs.length).length + (conA cs bs d x.1).length) x.2.1 ∧ MkIn x.2.2.2 x.2.2.1) (fun x=>[(63,int x.1)]) (fun x=>x.2.2.2 :: Own x.2.1) (fun x=>cs.length - x.1) pickZ rfl ⟨by dsimp only; omega,hI,MkIn.nil⟩ covZ Sel.refl ?_
 rintro ⟨i,σ4,ms,μ⟩ ⟨hi,hI4,hMk⟩
 dsimp only at hi hI4 hMk ⊢
 by_cases hlt2:i < cs.length
 rotate_left
 ·have hie:i = cs.length:=by omega
  subst hie;refine Abl ?_
  refine GH hMk Take.here (res0 rfl) (fun _ h=>List.mem_cons_of_mem _ h) Sel.refl ⟨σ4,rfl,.inl ?_⟩
  rw [List.length_map];unfold arcsE;rw [List.length_append];exact hI4
 have hc:=List.getElem?_eq_getElem hlt2
 have hct:=h.ct _ (List.getElem_mem hlt2)
 have hcn:=conA_next cs bs d hc
 obtain ⟨b8,o8,rfl,hRd8⟩:=ctRow hT.rc hc
 have hticks:=fun c1' c2'=>ticks_iter hT bw bm c1' c2' (.slice pl (placesA d qs.length).length kp) d h h0 i _ hc
 have hat:=fun (j:Nat) (t:Int) (ht:(tickL d.r d.e cs[i].g (freeC cs bs i))[j]? = some t)=>arcs_con (qs:=qs) (hs:=hs) hc ht
 have hfree:=(h.free hc).2.2
 generalize cs[i] = x at hc hct hcn hRd8 hticks hat hfree
 refine Ado ?_;refine B6 ?_; rintro _ _ ⟨b,rfl,rfl⟩;refine AY ?_; rintro _ _ ⟨b,rfl,rfl⟩;refine BF ?_; rintro _ _ ⟨rfl,rfl⟩;refine AU ?_; rintro _ _ ⟨rfl,rfl⟩;refine AE ?_;refine Abk ?_;refine AF ?_
 revert b; intro b7
 revert b; intro b6
 refine BC (ticks_spec bw i) rfl rfl Takes.nil (fun τ hτ=>by simp at hτ) rfl rfl ?_
 rintro _ _ ⟨c3,c4,rfl,rfl⟩;refine AT (ρ:=sng c3 _) takeZ ?_;refine AT (ρ:=sng c4 _) takeZ ?_;refine AT (ρ:=sng b6 _) takeZ ?_;refine AT (ρ:=sng b7 _) takeZ ?_
 have g6:rdc (sng b6 (.cells #[int (i:Int)] 3 (0,0))) b6 0 = some (int (i:Int)):=by rw [rdc_sng]; rfl
 have f0:rdc (sng b7 (.cells #[int x.f,int x.t,int x.s,int x.e,int x.r,int x.g,int x.l] 114 (0,0))) b7 0 = some (int x.f):=by rw [rdc_sng]; rfl
 have f1:rdc (sng b7 (.cells #[int x.f,int x.t,int x.s,int x.e,int x.r,int x.g,int x.l] 114 (0,0))) b7 1 = some (int x.t):=by rw [rdc_sng]; rfl
 have f4:rdc (sng b7 (.cells #[int x.f,int x.t,int x.s,int x.e,int x.r,int x.g,int x.l] 114 (0,0))) b7 4 = some (int x.r):=by rw [rdc_sng]; rfl
 have f5:rdc (sng b7 (.cells #[int x.f,int x.t,int x.s,int x.e,int x.r,int x.g,int x.l] 114 (0,0))) b7 5 = some (int x.g):=by rw [rdc_sng]; rfl
 refine AE ?_;refine AO ?_
 refine DB (gf:=178) (cap:=[.pointer (some ⟨c3,0,none⟩),.pointer (some ⟨c4,0,none⟩)]) (ps:=[71]) (X:=S) rfl Tryz.func178 rfl rfl
  (hticks c3 c4) ?_ (fun j σ=>Inv ((waitA qs hs d qs.length).length + (conA cs bs d i).length + j) σ) (fun σ=>Own σ) (fun c σ=>c = .ret ∧ Stop σ) σ4 rfl (Takes.skip Takes.all) hI4 ?_ ?_ ?_
 ·intro σ' hσ
  simp only [List.mem_cons,List.not_mem_nil,or_false] at hσ ⊢
  rcases hσ with h | h | h | h | h | h | h <;> simp [h]
 ·rintro lo r j σ5 vs hvs hI5 hps has hbd hst hpe hfr
  obtain ⟨st,pe,fnn,tm,prm,asg,bdy,df⟩:=r
  simp only at hps has hbd hst hpe hfr;subst hps has hbd hst hpe;rw [List.getElem?_map] at hvs
  obtain ⟨t,ht,rfl⟩:=Option.map_eq_some_iff.1 hvs
  obtain ⟨_,ht1,ht2⟩:=mem_tickL.1 (List.mem_of_getElem? ht)
  have hl1:=numAt_get hM (n:=x.f) (t:=t) hct.1.1 hct.1.2 ht1 (by omega)
  have hl2:=numAt_get hM (n:=x.t) (t:=t + 1 + x.g) hct.2.1.1 hct.2.1.2 (by omega) (by omega)
  have hya:=hy _ σ5 (encEA (conE d x i t)) (by rw [List.getElem?_map,hat j t ht]; rfl) hI5
  refine yield_spec hfr rfl (by intro p hp; simp at hp; omega) putiZ (fun N' β'=>?_)
  dsimp only
  refine AA ?_;refine Aaa ?_;refine CY rfl rfl ?_;refine C7 takeZ rfl ?_;refine AO ?_;refine AC ?_
  refine A8 (.q 0 (.q 1 (.q 2 (.q 3 (.q 4 (.q 5 (.q 6 (.q 7 (.q 8 (.q 9 (.q 10 (.q 11 (.q 12 (.q 13 (.q 14 (.q 15 (.q 16 (.q 17 (.q 18 (.q 19 (.q 20 (.q 21 (.q 22 (.q 23 (.q 24 (.l 25 .e (.l 26 .b .nil))))))))))))))))))))))))))) [] rfl (by kernel_rfl) Sel.nil ?_
  refine AR ?_;refine Ab6 ?_;refine Aar ?_;refine AQ ?_;refine C4 ?_
  focus ((refine' CR rfl _ rfl rfl rfl rfl _; rotate_left; (focus (first | exact C3 2 [x.f,t] rfl rfl rfl ⟨by kernel_rfl,by kernel_rfl⟩ rfl hMl rfl hl1 (mapAtS_rd memZ) | exact C3 2 [x.t,t + 1 + x.g] rfl rfl rfl ⟨by kernel_rfl,by kernel_rfl⟩ rfl hMl rfl hl2 (mapAtS_rd memZ)))))
  refine AR ?_;refine Ab6 ?_;refine Aar ?_;refine AQ ?_;refine DK ?_;refine Aar ?_;refine DK ?_;refine C4 ?_
  focus ((refine' CR rfl _ rfl rfl rfl rfl _; rotate_left; (focus (first | exact C3 2 [x.f,t] rfl rfl rfl ⟨by kernel_rfl,by kernel_rfl⟩ rfl hMl rfl hl1 (mapAtS_rd memZ) | exact C3 2 [x.t,t + 1 + x.g] rfl rfl rfl ⟨by kernel_rfl,by kernel_rfl⟩ rfl hMl rfl hl2 (mapAtS_rd memZ)))))
  refine Aar ?_;refine C4 ?_;refine C1 ?_; rintro _ _ ⟨b,rfl,rfl⟩
  focus ((refine B7 ?_; refine' DI rfl _ rfl rfl _ _; rotate_left; (focus (apply BS; exact rfl; exact rfl; exact takeZ; exact (by (repeat (first | exact (fun v hv=>absurd hv List.not_mem_nil) | (refine List.forall_mem_cons.2 ⟨?_,?_⟩; (focus (first | exact rfl | assumption))))); first | done | fail); exact rfl; exact rfl)); (focus (rintro _ _ ⟨_,rfl⟩ w hw; exact hw.sel Sel.nil)); rintro _ _ ⟨rfl,rfl⟩))
  refine A5 ?_
  revert b; intro b9
  refine Abk ?_;refine AS ?_;refine Ach ?_;refine CH (BO (out:=[int (vtx d x.f t),int (vtx d x.t (t + 1 + x.g)),int x.r,int (i:Int),int t]) rfl rfl rfl rfl rfl) rfl rfl rfl ?_
  refine BC hya rfl rfl (Takes.skip (Takes.skip Takes.all)) (fun τ hτ=>.inl (by simp [hτ])) rfl rfl ?_
  rintro _ H' ⟨σ6,rfl,⟨rfl,hI6⟩ | ⟨rfl,hSt⟩⟩
  ·refine CS (H':=_ :: _ :: Own σ6) (List.perm_append_comm (l₂:=[_,_])) ?_
   refine Acb ?_;refine A2 ?_;exact B4 (Take.there Take.here) rsubZ (Sel.cons Take.here (Sel.skip Sel.refl)) ⟨σ6,.inl ⟨rfl,hI6,rfl⟩⟩
  ·refine CS (H':=_ :: _ :: Own σ6) (List.perm_append_comm (l₂:=[_,_])) ?_
   refine Ad1 ?_;exact E3 (Take.there Take.here) rsubZ (Sel.cons Take.here (Sel.skip Sel.refl)) ⟨σ6,.inr ⟨rfl,.ret,⟨rfl,hSt⟩,rfl⟩⟩
 ·rintro b9 σ5 hI5
  rw [List.length_map] at hI5;refine CS (H':=sng b9 defO :: μ :: Own σ5) (List.Perm.cons _ (List.perm_append_comm (l₂:=[_]))) ?_
  refine DY (R':=_) (fun _ h=>List.mem_cons_of_mem _ (List.mem_cons_of_mem _ (List.mem_cons_of_mem _ (List.mem_cons_of_mem _ (h))))) ?_
  refine C5 (b:=b9) Take.here (μ:=μ) Take.here hMk ?_
  intro μ2 hM2
  refine A2 ?_;refine Aa0 ?_
  refine DM (i + 1,σ5,(b9 :: ms,μ2)) rfl ⟨by dsimp only; omega,?_,hM2⟩ (by dsimp only; omega) covZ Sel.refl
  dsimp only
  rw [hcn,← Nat.add_assoc];exact hI5
 ·rintro b9 c σ5 ⟨rfl,hSt⟩
  refine CS (H':=sng b9 defO :: μ :: Own σ5) (List.Perm.cons _ (List.perm_append_comm (l₂:=[_]))) ?_;refine C5 (b:=b9) Take.here (μ:=μ) Take.here hMk ?_
  intro μ2 hM2
  exact DX (ms:=b9 :: ms) hM2 Take.here (res0 rfl) (fun _ h=>List.mem_cons_of_mem _ (List.mem_cons_of_mem _ (List.mem_cons_of_mem _ (List.mem_cons_of_mem _ (List.mem_cons_of_mem _ (h)))))) Sel.refl ⟨σ5,rfl,.inr hSt⟩
end Go.Proofs.YtjehnjhkcmobcaaGreat
/- The graph, and the numbers of its places. -/
namespace Go.Proofs.YtjehnjhkcmobcaaGreat
open Go.Eng Go.Step
set_option maxRecDepth 100000
set_option maxHeartbeats 4000000

theorem ea_len (qs:List Int) (cs:List Ct) (bs:List Bk) (hs:List Hd) (d:Dm) (h:VOk qs cs bs hs d):(arcsE qs cs bs hs d).length ≤ 1000000:=by
 have:=h.len
 omega
set_option maxHeartbeats 32000000 in
theorem graph_spec {ρ τ σ υ:PH} {pq pc pb ph:Option Addr} {kq kc kb kh:Nat} {qs:List Int} {cs:List Ct} {bs:List Bk} {hs:List Hd} (hT:TbAt ρ τ σ υ pq pc pb ph kq kc kb kh qs cs bs hs) (bw bm kp:Nat) (pl:Option Addr) (χ:PH) (M:List (List Int × Value)) (d:Dm) (h:VOk qs cs bs hs d) (h0:chkB qs cs bs = 0) (hpl:SlE encS 2 χ (.slice pl (placesA d qs.length).length kp) (placesA d qs.length)) (hM:NumAt d qs.length d.r M) :
  Makes Tryz.prog (fv 68) [.pointer (some ⟨bw,0,none⟩)] [sng bw (.cells #[.slice pq qs.length kq,.slice pc cs.length kc,.slice pb bs.length kb,.slice ph hs.length kh,int d.s,int d.d,int d.v,int d.r,int d.e,.slice pl (placesA d qs.length).length kp,.map (some bm)] 147 (0,0)),sng bm (mapS M),χ,ρ,τ,σ,υ] (fun r χ'=>∃ u,r = .agg #[int (vsN qs d),u,int (vtx d d.s d.r),int (vtx d d.d d.e)] ∧ OwnS 157 3 u (arcsG qs cs bs hs d).length ((arcsG qs cs bs hs d).flatMap encA) χ'):=by
 have hdm:=h.dm
 unfold okDm at hdm
 have hnq:=h.nq
 have hMl:=hM.1
 have hl1:=numAt_get hM (n:=d.s) (t:=d.r) (by omega) (by omega) (by omega) (by omega)
 have hl2:=numAt_get hM (n:=d.d) (t:=d.e) (by omega) (by omega) (by omega) (by omega)
 have hit:=fun c1=>arcs_iter hT bw bm c1 kp pl χ M d h h0 hpl hM
 have hEl:=ea_len qs cs bs hs d h
 have hplen:(((placesA d qs.length).length:Nat):Int) = vsN qs d:=placesA_len (d:=d) (by omega) qs.length
 have hone:∀ z n (xs:List Value) (χ:PH),OwnS 157 3 z n xs χ → z.oneCell' = true:=fun z n xs χ h=>by obtain ⟨_,_,rfl⟩:=h.form; rfl
 have w0:rdc (sng bw (.cells #[.slice pq qs.length kq,.slice pc cs.length kc,.slice pb bs.length kb,.slice ph hs.length kh,int d.s,int d.d,int d.v,int d.r,int d.e,.slice pl (placesA d qs.length).length kp,.map (some bm)] 147 (0,0))) bw 0 = some (.slice pq qs.length kq):=by rw [rdc_sng]; rfl
 have w1:rdc (sng bw (.cells #[.slice pq qs.length kq,.slice pc cs.length kc,.slice pb bs.length kb,.slice ph hs.length kh,int d.s,int d.d,int d.v,int d.r,int d.e,.slice pl (placesA d qs.length).length kp,.map (some bm)] 147 (0,0))) bw 1 = some (.slice pc cs.length kc):=by rw [rdc_sng]; rfl
 have w2:rdc (sng bw (.cells #[.slice pq qs.length kq,.slice pc cs.length kc,.slice pb bs.length kb,.slice ph hs.length kh,int d.s,int d.d,int d.v,int d.r,int d.e,.slice pl (placesA d qs.length).length kp,.map (some bm)] 147 (0,0))) bw 2 = some (.slice pb bs.length kb):=by rw [rdc_sng]; rfl
 have w3:rdc (sng bw (.cells #[.slice pq qs.length kq,.slice pc cs.length kc,.slice pb bs.length kb,.slice ph hs.length kh,int d.s,int d.d,int d.v,int d.r,int d.e,.slice pl (placesA d qs.length).length kp,.map (some bm)] 147 (0,0))) bw 3 = some (.slice ph hs.length kh):=by rw [rdc_sng]; rfl
 have w4:rdc (sng bw (.cells #[.slice pq qs.length kq,.slice pc cs.length kc,.slice pb bs.length kb,.slice ph hs.length kh,int d.s,int d.d,int d.v,int d.r,int d.e,.slice pl (placesA d qs.length).length kp,.map (some bm)] 147 (0,0))) bw 4 = some (int d.s):=by rw [rdc_sng]; rfl
 have w5:rdc (sng bw (.cells #[.slice pq qs.length kq,.slice pc cs.length kc,.slice pb bs.length kb,.slice ph hs.length kh,int d.s,int d.d,int d.v,int d.r,int d.e,.slice pl (placesA d qs.length).length kp,.map (some bm)] 147 (0,0))) bw 5 = some (int d.d):=by rw [rdc_sng]; rfl
 have w6:rdc (sng bw (.cells #[.slice pq qs.length kq,.slice pc cs.length kc,.slice pb bs.length kb,.slice ph hs.length kh,int d.s,int d.d,int d.v,int d.r,int d.e,.slice pl (placesA d qs.length).length kp,.map (some bm)] 147 (0,0))) bw 6 = some (int d.v):=by rw [rdc_sng]; rfl
 have w7:rdc (sng bw (.cells #[.slice pq qs.length kq,.slice pc cs.length kc,.slice pb bs.length kb,.slice ph hs.length kh,int d.s,int d.d,int d.v,int d.r,int d.e,.slice pl (placesA d qs.length).length kp,.map (some bm)] 147 (0,0))) bw 7 = some (int d.r):=by rw [rdc_sng]; rfl
 have w8:rdc (sng bw (.cells #[.slice pq qs.length kq,.slice pc cs.length kc,.slice pb bs.length kb,.slice ph hs.length kh,int d.s,int d.d,int d.v,int d.r,int d.e,.slice pl (placesA d qs.length).length kp,.map (some bm)] 147 (0,0))) bw 8 = some (int d.e):=by rw [rdc_sng]; rfl
 have w9:rdc (sng bw (.cells #[.slice pq qs.length kq,.slice pc cs.length kc,.slice pb bs.length kb,.slice ph hs.length kh,int d.s,int d.d,int d.v,int d.r,int d.e,.slice pl (placesA d qs.length).length kp,.map (some bm)] 147 (0,0))) bw 9 = some (.slice pl (placesA d qs.length).length kp):=by rw [rdc_sng]; rfl
 have w10:rdc (sng bw (.cells #[.slice pq qs.length kq,.slice pc cs.length kc,.slice pb bs.length kb,.slice ph hs.length kh,int d.s,int d.d,int d.v,int d.r,int d.e,.slice pl (placesA d qs.length).length kp,.map (some bm)] 147 (0,0))) bw 10 = some (.map (some bm)):=by rw [rdc_sng]; rfl
 have wp:RdP (sng bw (.cells #[.slice pq qs.length kq,.slice pc cs.length kc,.slice pb bs.length kb,.slice ph hs.length kh,int d.s,int d.d,int d.v,int d.r,int d.e,.slice pl (placesA d qs.length).length kp,.map (some bm)] 147 (0,0))) bw 0 [.slice pq qs.length kq,.slice pc cs.length kc]:=rdP_sng (xs:=[.slice pq qs.length kq,.slice pc cs.length kc,.slice pb bs.length kb,.slice ph hs.length kh,int d.s,int d.d,int d.v,int d.r,int d.e,.slice pl (placesA d qs.length).length kp,.map (some bm)]) rfl
 refine spec_in (cap:=[]) Tryz.func68 rfl rfl Tryz.ntmps68 rfl envZ (fun N β=>?_)
 refine BY ?_;refine Aa ?_;refine AY ?_; rintro _ _ ⟨b,rfl,rfl⟩;refine Aal ?_
 revert b; intro b2
 refine D4 (X:=Nat) [0,2] (fun _=>True) (fun x=>[(3,.pointer (some ⟨x,0,none⟩))]) (fun x=>[sng x (.cells #[int (vsN qs d),.slice none 0 0,int (vtx d d.s d.r),int (vtx d d.d d.e)] 75 (0,0)),sng b2 (.cells #[int 0,.slice none 0 0,int 0,int 0] 75 (0,0)),emp]) pickZ ?_ ?_
 ·refine A8 (.q 0 (.q 1 (.q 2 (.q 3 (.q 4 (.q 5 (.q 6 (.q 7 (.q 8 (.q 9 (.q 10 (.q 11 (.q 12 (.q 13 (.q 14 (.q 15 (.q 16 (.q 17 (.q 18 (.q 19 (.q 20 (.q 21 (.q 22 (.q 23 (.q 24 (.q 25 (.q 26 (.q 27 (.q 28 (.q 29 (.q 30 (.q 31 (.q 32 (.q 33 (.q 34 (.q 35 (.q 36 (.q 37 (.l 38 .e (.l 39 .b .nil)))))))))))))))))))))))))))))))))))))))) [] rfl (by kernel_rfl) Sel.nil ?_
  repeat' (first
   | (refine AQ ?_)
   | (refine AR ?_)
   | (refine AW ?_)
   | (refine CE ?_)
   | (refine CJ ?_)
   | (refine EW ?_)
   | (refine A4 ?_)
   | (refine C4 ?_)
   | (focus ((refine' CR rfl _ rfl rfl rfl rfl _; rotate_left; (focus (first | exact C3 2 [d.s,d.r] rfl rfl rfl ⟨by kernel_rfl,by kernel_rfl⟩ rfl hMl rfl hl1 (mapAtS_rd memZ) | exact C3 2 [d.d,d.e] rfl rfl rfl ⟨by kernel_rfl,by kernel_rfl⟩ rfl hMl rfl hl2 (mapAtS_rd memZ))))))
   | (focus ((refine B7 ?_; refine' DI rfl _ rfl rfl _ _; rotate_left; (focus (apply BS; exact rfl; exact rfl; exact takeZ; exact (by (repeat (first | exact (fun v hv=>absurd hv List.not_mem_nil) | (refine List.forall_mem_cons.2 ⟨?_,?_⟩; (focus (first | exact rfl | assumption))))); first | done | fail); exact rfl; exact rfl)); (focus (rintro _ _ ⟨_,rfl⟩ w hw; exact hw.sel Sel.nil)); rintro _ _ ⟨rfl,rfl⟩)))
   | (refine A5 ?_)
   | (refine C1 ?_; rintro _ _ ⟨b,rfl,rfl⟩)
   | fail)
  all_goals (rw [hplen]; refine BW _ trivial covZ selZ)
 rintro b3 _;refine Aai ?_
 refine BC (arcs_spec bw) rfl rfl Takes.nil (fun τ hτ=>by simp at hτ) rfl rfl ?_
 rintro _ _ ⟨c1,rfl,rfl⟩;refine AT (ρ:=sng c1 _) takeZ ?_;refine AE ?_;refine AO ?_
 refine DB (gf:=131) (cap:=[.pointer (some ⟨c1,0,none⟩)]) (ps:=[45]) (X:=Value × PH) rfl Tryz.func131 rfl rfl
  (hit c1) ?_
  (fun i x=>OwnS 157 3 x.1 ((arcsE qs cs bs hs d).take i).length (((arcsE qs cs bs hs d).take i).flatMap (fun e=>encA e.a)) x.2)
  (fun x=>[sng b3 (.cells #[int (vsN qs d),x.1,int (vtx d d.s d.r),int (vtx d d.d d.e)] 75 (0,0)),sng b2 (.cells #[int 0,.slice none 0 0,int 0,int 0] 75 (0,0)),x.2]) (fun _ _=>False) (.slice none 0 0,emp) rfl takesZ (OwnS.nil _ _) ?_ ?_ ?_
 ·intro σ' hσ
  simp only [List.mem_cons,List.not_mem_nil,or_false] at hσ ⊢
  rcases hσ with h | h | h | h | h | h | h | h <;> simp [h]
 ·rintro lo r i ⟨u,σ1⟩ vs hvs hO hps has hbd hst hpe hfr
  obtain ⟨st,pe,fnn,tm,prm,asg,bdy,df⟩:=r
  simp only at hps has hbd hst hpe hfr;subst hps has hbd hst hpe;rw [List.getElem?_map] at hvs
  obtain ⟨x,hx,rfl⟩:=Option.map_eq_some_iff.1 hvs
  dsimp only at hO
  have hti:((arcsE qs cs bs hs d).take (i + 1)) = (arcsE qs cs bs hs d).take i ++ [x]:=by
   rw [List.take_add_one,hx]; rfl
  have hil:((arcsE qs cs bs hs d).take i).length ≤ 1000000:=by rw [List.length_take]; omega
  simp only [hti]
  generalize (arcsE qs cs bs hs d).take i = O at hO hil
  have hu1:=hone _ _ _ _ hO
  refine yield_spec hfr rfl (by intro p hp; simp at hp; omega) putiZ (fun N' β'=>?_)
  dsimp only
  refine AA ?_;refine AY ?_; rintro _ _ ⟨b,rfl,rfl⟩;refine AU ?_; rintro _ _ ⟨rfl,rfl⟩;refine Aev ?_;refine C7 takeZ rfl ?_
  revert b; intro bx
  refine AT (ρ:=sng bx _) takeZ ?_
  have px:RdP (sng bx (.cells #[int x.a.f,int x.a.t,int x.a.c,int x.c,int x.t] 169 (0,0))) bx 0 [int x.a.f,int x.a.t,int x.a.c]:=rdP_sng (xs:=[int x.a.f,int x.a.t,int x.a.c,int x.c,int x.t]) rfl
  refine AO ?_;refine AA ?_;refine Aac ?_;refine AG ?_;refine AS ?_;refine BD ?_; rintro _ _ ⟨b,rfl,rfl⟩
  refine BH (B8 (by_:=24) (s:=3) (news:=[int x.a.f,int x.a.t,int x.a.c]) rfl rfl rfl rfl rfl rfl rfl hO takeZ (cells_own memZ) rfl (by (repeat (first | exact (fun v hv=>absurd hv List.not_mem_nil) | (refine List.forall_mem_cons.2 ⟨?_,?_⟩; (focus (first | exact rfl | assumption))))); first | done | fail) (by omega) (by simp only [maxLen]; omega) (by omega)) rfl rfl rfl ?_
  rintro u1 _ ⟨σ2,hO1,rfl⟩
  have hu2:=hone _ _ _ _ hO1
  refine AG ?_;refine BF ?_; rintro _ _ ⟨rfl,rfl⟩;refine Aer ?_;refine B4 takeZ rsubZ selZ ⟨(u1,σ2),.inl ⟨rfl,?_,rfl⟩⟩
  dsimp only
  rw [List.length_append,List.flatMap_append];exact hO1
 ·rintro b9 ⟨u,σ1⟩ hO
  rw [List.length_map,List.take_length] at hO
  dsimp only at hO
  have hO2:OwnS 157 3 u (arcsG qs cs bs hs d).length ((arcsG qs cs bs hs d).flatMap encA) σ1:=by
   unfold arcsG;rw [List.length_map,List.flatMap_map];exact hO
  have hu1:=hone _ _ _ _ hO2
  refine A2 ?_;refine Abp ?_;refine AU ?_; rintro _ _ ⟨rfl,rfl⟩;refine AE ?_;refine EG (v:=.agg #[int (vsN qs d),u,int (vtx d d.s d.r),int (vtx d d.d d.e)]) (Marks.cons (.there .here) .nil) ?_ rsubZ ?_ ⟨σ1,⟨u,rfl,hO2⟩,rfl⟩
  ·exact resS1 (b1:=b2) (T:=75) (v1:=[int (vsN qs d),u,int (vtx d d.s d.r),int (vtx d d.d d.e)]) rfl rfl rfl rfl (cells_own memZ)
  ·exact selZ
 ·rintro _ _ _ h; exact h.elim
set_option maxHeartbeats 16000000 in
theorem Graph_spec {ρ τ σ υ:PH} {pq pc pb ph:Option Addr} {kq kc kb kh:Nat} {qs:List Int} {cs:List Ct} {bs:List Bk} {hs:List Hd} (hT:TbAt ρ τ σ υ pq pc pb ph kq kc kb kh qs cs bs hs) (d:Dm) :
  Makes Tryz.prog (fv 60) [.agg #[.slice pq qs.length kq,.slice pc cs.length kc,.slice pb bs.length kb,.slice ph hs.length kh],.agg #[int d.s,int d.d,int d.v,int d.r,int d.e]] [ρ,τ,σ,υ] (fun r χ'=>if validT qs cs bs hs d = true then ∃ u,r = .tuple #[.agg #[int (vsN qs d),u,int (vtx d d.s d.r),int (vtx d d.d d.e)],int 0] ∧ OwnS 157 3 u (arcsG qs cs bs hs d).length ((arcsG qs cs bs hs d).flatMap encA) χ' else r = .tuple #[.agg #[int 0,.slice none 0 0,int 0,int 0],int 1] ∧ χ' = emp):=by
 refine spec_in (cap:=[]) Tryz.func60 rfl rfl Tryz.ntmps60 rfl envZ (fun N β=>?_)
 refine Aa ?_;refine BH (BM rfl) rfl rfl rfl ?_;rintro _ _ ⟨b1,rfl,rfl⟩;refine AT (ρ:=sng b1 _) takeZ ?_
 have ct:=rdB b1 29 [.slice pq qs.length kq,.slice pc cs.length kc,.slice pb bs.length kb,.slice ph hs.length kh]
 have ct0:=rdC ct 0
 have ct1:=rdC ct 1
 have ct2:=rdC ct 2
 have ct3:=rdC ct 3
 have ctp:RdP (sng b1 (.cells #[.slice pq qs.length kq,.slice pc cs.length kc,.slice pb bs.length kb,.slice ph hs.length kh] 29 (0,0))) b1 0 [.slice pq qs.length kq,.slice pc cs.length kc]:=rdP_sng (xs:=[.slice pq qs.length kq,.slice pc cs.length kc,.slice pb bs.length kb,.slice ph hs.length kh]) rfl
 refine BH (BM rfl) rfl rfl rfl ?_;rintro _ _ ⟨b2,rfl,rfl⟩;refine AT (ρ:=sng b2 _) takeZ ?_
 have cd:=rdB b2 31 [int d.s,int d.d,int d.v,int d.r,int d.e]
 have cd0:=rdC cd 0
 have cd1:=rdC cd 1
 have cd2:=rdC cd 2
 have cd3:=rdC cd 3
 have cd4:=rdC cd 4
 refine BY ?_;refine AY ?_; rintro _ _ ⟨b,rfl,rfl⟩;refine Aaa ?_;refine Ace ?_
 revert b; intro b4
 refine BC (build_spec hT d) rfl rfl Takes.nil rdZ rfl rfl ?_;rintro _ H' (⟨hv,rfl,rfl⟩ | ⟨hv,bw,bm,pl0,χ,M,rfl,rfl,hO,hM⟩)
 ·refine AB ?_
  refine Aa6 ?_;refine Aan ?_;refine Aai ?_;refine Ad1 ?_;refine Aa ?_;refine BR ?_;refine AU ?_; rintro _ _ ⟨rfl,rfl⟩;refine Aaa ?_
  exact AI (resSE (b1:=b4) (T:=75) (v1:=[int 0,.slice none 0 0,int 0,int 0]) rfl rfl rfl rfl rfl (cells_own memZ)) rsubZ selZ ⟨emp,by dsimp only; rw [if_neg (by simp [hv])]; exact ⟨rfl,rfl⟩,rfl⟩
 have h:=vok hv
 have h0:=vokB hv
 have hdm:=h.dm
 unfold okDm at hdm
 have hnq:=h.nq
 obtain ⟨pl,kp,rfl⟩:=hO.form
 have hpl:SlE encS 2 χ (.slice pl (placesA d qs.length).length kp) (placesA d qs.length):=hO.at
 refine AT (ρ:=sng bw _) takeZ ?_;refine AT (ρ:=sng bm _) takeZ ?_;refine AT (ρ:=χ) takeZ ?_
 have w0:rdc (sng bw (.cells #[.slice pq qs.length kq,.slice pc cs.length kc,.slice pb bs.length kb,.slice ph hs.length kh,int d.s,int d.d,int d.v,int d.r,int d.e,.slice pl (placesA d qs.length).length kp,.map (some bm)] 147 (0,0))) bw 0 = some (.slice pq qs.length kq):=by rw [rdc_sng]; rfl
 have w1:rdc (sng bw (.cells #[.slice pq qs.length kq,.slice pc cs.length kc,.slice pb bs.length kb,.slice ph hs.length kh,int d.s,int d.d,int d.v,int d.r,int d.e,.slice pl (placesA d qs.length).length kp,.map (some bm)] 147 (0,0))) bw 1 = some (.slice pc cs.length kc):=by rw [rdc_sng]; rfl
 have w2:rdc (sng bw (.cells #[.slice pq qs.length kq,.slice pc cs.length kc,.slice pb bs.length kb,.slice ph hs.length kh,int d.s,int d.d,int d.v,int d.r,int d.e,.slice pl (placesA d qs.length).length kp,.map (some bm)] 147 (0,0))) bw 2 = some (.slice pb bs.length kb):=by rw [rdc_sng]; rfl
 have w3:rdc (sng bw (.cells #[.slice pq qs.length kq,.slice pc cs.length kc,.slice pb bs.length kb,.slice ph hs.length kh,int d.s,int d.d,int d.v,int d.r,int d.e,.slice pl (placesA d qs.length).length kp,.map (some bm)] 147 (0,0))) bw 3 = some (.slice ph hs.length kh):=by rw [rdc_sng]; rfl
 have w4:rdc (sng bw (.cells #[.slice pq qs.length kq,.slice pc cs.length kc,.slice pb bs.length kb,.slice ph hs.length kh,int d.s,int d.d,int d.v,int d.r,int d.e,.slice pl (placesA d qs.length).length kp,.map (some bm)] 147 (0,0))) bw 4 = some (int d.s):=by rw [rdc_sng]; rfl
 have w5:rdc (sng bw (.cells #[.slice pq qs.length kq,.slice pc cs.length kc,.slice pb bs.length kb,.slice ph hs.length kh,int d.s,int d.d,int d.v,int d.r,int d.e,.slice pl (placesA d qs.length).length kp,.map (some bm)] 147 (0,0))) bw 5 = some (int d.d):=by rw [rdc_sng]; rfl
 have w6:rdc (sng bw (.cells #[.slice pq qs.length kq,.slice pc cs.length kc,.slice pb bs.length kb,.slice ph hs.length kh,int d.s,int d.d,int d.v,int d.r,int d.e,.slice pl (placesA d qs.length).length kp,.map (some bm)] 147 (0,0))) bw 6 = some (int d.v):=by rw [rdc_sng]; rfl
 have w7:rdc (sng bw (.cells #[.slice pq qs.length kq,.slice pc cs.length kc,.slice pb bs.length kb,.slice ph hs.length kh,int d.s,int d.d,int d.v,int d.r,int d.e,.slice pl (placesA d qs.length).length kp,.map (some bm)] 147 (0,0))) bw 7 = some (int d.r):=by rw [rdc_sng]; rfl
 have w8:rdc (sng bw (.cells #[.slice pq qs.length kq,.slice pc cs.length kc,.slice pb bs.length kb,.slice ph hs.length kh,int d.s,int d.d,int d.v,int d.r,int d.e,.slice pl (placesA d qs.length).length kp,.map (some bm)] 147 (0,0))) bw 8 = some (int d.e):=by rw [rdc_sng]; rfl
 have w9:rdc (sng bw (.cells #[.slice pq qs.length kq,.slice pc cs.length kc,.slice pb bs.length kb,.slice ph hs.length kh,int d.s,int d.d,int d.v,int d.r,int d.e,.slice pl (placesA d qs.length).length kp,.map (some bm)] 147 (0,0))) bw 9 = some (.slice pl (placesA d qs.length).length kp):=by rw [rdc_sng]; rfl
 have w10:rdc (sng bw (.cells #[.slice pq qs.length kq,.slice pc cs.length kc,.slice pb bs.length kb,.slice ph hs.length kh,int d.s,int d.d,int d.v,int d.r,int d.e,.slice pl (placesA d qs.length).length kp,.map (some bm)] 147 (0,0))) bw 10 = some (.map (some bm)):=by rw [rdc_sng]; rfl
 have hg:=graph_spec hT bw bm kp pl χ M d h h0 hpl hM
 refine Acc ?_;refine Acb ?_;refine Aad ?_;refine CB hg rfl rfl rdZ rfl rfl ?_;rintro _ σ1 ⟨u,rfl,hO1⟩
 have hu1:u.oneCell' = true:=by obtain ⟨_,_,rfl⟩:=hO1.form; rfl
 refine AU ?_; rintro _ _ ⟨rfl,rfl⟩;refine Aaa ?_
 exact AI (resSE (b1:=b4) (T:=75) (v1:=[int (vsN qs d),u,int (vtx d d.s d.r),int (vtx d d.d d.e)]) rfl rfl rfl rfl rfl (cells_own memZ)) rsubZ selZ ⟨σ1,by dsimp only; rw [if_pos hv]; exact ⟨u,rfl,hO1⟩,rfl⟩
end Go.Proofs.YtjehnjhkcmobcaaGreat
/- Shipments. -/
namespace Go.Proofs.YtjehnjhkcmobcaaGreat
open Go.Eng Go.Step
set_option maxRecDepth 100000
set_option maxHeartbeats 4000000

set_option maxHeartbeats 32000000 in
theorem Shipments_spec {ρ τ σ υ:PH} {pq pc pb ph:Option Addr} {kq kc kb kh:Nat} {qs:List Int} {cs:List Ct} {bs:List Bk} {hs:List Hd} (hT:TbAt ρ τ σ υ pq pc pb ph kq kc kb kh qs cs bs hs) (d:Dm) (ω:PH) (u0:Value) (fl:List Int) (hu:IntsAt ω u0 fl) :
  Makes Tryz.prog (fv 33) [.agg #[.slice pq qs.length kq,.slice pc cs.length kc,.slice pb bs.length kb,.slice ph hs.length kh],.agg #[int d.s,int d.d,int d.v,int d.r,int d.e],u0] [ρ,τ,σ,υ,ω] (fun r χ=>∃ u,r = .tuple #[u,int (shipsE qs cs bs hs d fl)] ∧ OwnS 62 3 u (shipsR qs cs bs hs d fl).length ((shipsR qs cs bs hs d fl).flatMap encX) χ):=by
 obtain ⟨pf,kf,rfl,hrf⟩:=hu.val Eng.encI_len
 refine spec_in (cap:=[]) Tryz.func33 rfl rfl Tryz.ntmps33 rfl envZ (fun N β=>?_)
 refine Aa ?_;refine BH (BM rfl) rfl rfl rfl ?_;rintro _ _ ⟨b1,rfl,rfl⟩;refine AT (ρ:=sng b1 _) takeZ ?_
 have ct:=rdB b1 29 [.slice pq qs.length kq,.slice pc cs.length kc,.slice pb bs.length kb,.slice ph hs.length kh]
 have ct0:=rdC ct 0
 have ct1:=rdC ct 1
 have ct2:=rdC ct 2
 have ct3:=rdC ct 3
 have ctp:RdP (sng b1 (.cells #[.slice pq qs.length kq,.slice pc cs.length kc,.slice pb bs.length kb,.slice ph hs.length kh] 29 (0,0))) b1 0 [.slice pq qs.length kq,.slice pc cs.length kc]:=rdP_sng (xs:=[.slice pq qs.length kq,.slice pc cs.length kc,.slice pb bs.length kb,.slice ph hs.length kh]) rfl
 refine BH (BM rfl) rfl rfl rfl ?_;rintro _ _ ⟨b2,rfl,rfl⟩;refine AT (ρ:=sng b2 _) takeZ ?_
 have cd:=rdB b2 31 [int d.s,int d.d,int d.v,int d.r,int d.e]
 have cd0:=rdC cd 0
 have cd1:=rdC cd 1
 have cd2:=rdC cd 2
 have cd3:=rdC cd 3
 have cd4:=rdC cd 4
 refine BH (DC rfl rfl) rfl rfl rfl ?_;rintro _ _ ⟨bf,rfl,rfl⟩;refine AT (ρ:=sng bf _) takeZ ?_
 have cf:rdc (sng bf (.cells #[.slice pf fl.length kf] 22 (0,0))) bf 0 = some (.slice pf fl.length kf):=by rw [rdc_sng]; rfl
 refine BY ?_;refine Aan ?_;refine Ace ?_;refine BC (build_spec hT d) rfl rfl Takes.nil rdZ rfl rfl ?_;rintro _ H' (⟨hv,rfl,rfl⟩ | ⟨hv,bw,bm,pl0,χ,M,rfl,rfl,hO,hM⟩)
 ·have hE:shipsE qs cs bs hs d fl = 1:=by unfold shipsE; rw [if_neg (by simp [hv])]
  have hR:shipsR qs cs bs hs d fl = []:=by unfold shipsR; rw [hE,if_neg (by omega)]
  rw [hE,hR];refine Acc ?_;refine Ad1 ?_;refine Acj ?_;exact AI (res2 rfl rfl rfl) rsubZ selZ ⟨emp,⟨_,rfl,OwnS.nil _ _⟩,rfl⟩
 have hEv:shipsE qs cs bs hs d fl = (Go.Flow.valueSpec (vsN qs d) (arcsG qs cs bs hs d) fl (vtx d d.s d.r) (vtx d d.d d.e)).2:=by unfold shipsE; rw [if_pos hv]
 have h:=vok hv
 have h0:=vokB hv
 have hdm:=h.dm
 unfold okDm at hdm
 have hnq:=h.nq
 obtain ⟨pl,kp,rfl⟩:=hO.form
 have hpl:SlE encS 2 χ (.slice pl (placesA d qs.length).length kp) (placesA d qs.length):=hO.at
 refine AT (ρ:=sng bw _) takeZ ?_;refine AT (ρ:=sng bm _) takeZ ?_;refine AT (ρ:=χ) takeZ ?_
 have w0:rdc (sng bw (.cells #[.slice pq qs.length kq,.slice pc cs.length kc,.slice pb bs.length kb,.slice ph hs.length kh,int d.s,int d.d,int d.v,int d.r,int d.e,.slice pl (placesA d qs.length).length kp,.map (some bm)] 147 (0,0))) bw 0 = some (.slice pq qs.length kq):=by rw [rdc_sng]; rfl
 have w1:rdc (sng bw (.cells #[.slice pq qs.length kq,.slice pc cs.length kc,.slice pb bs.length kb,.slice ph hs.length kh,int d.s,int d.d,int d.v,int d.r,int d.e,.slice pl (placesA d qs.length).length kp,.map (some bm)] 147 (0,0))) bw 1 = some (.slice pc cs.length kc):=by rw [rdc_sng]; rfl
 have w2:rdc (sng bw (.cells #[.slice pq qs.length kq,.slice pc cs.length kc,.slice pb bs.length kb,.slice ph hs.length kh,int d.s,int d.d,int d.v,int d.r,int d.e,.slice pl (placesA d qs.length).length kp,.map (some bm)] 147 (0,0))) bw 2 = some (.slice pb bs.length kb):=by rw [rdc_sng]; rfl
 have w3:rdc (sng bw (.cells #[.slice pq qs.length kq,.slice pc cs.length kc,.slice pb bs.length kb,.slice ph hs.length kh,int d.s,int d.d,int d.v,int d.r,int d.e,.slice pl (placesA d qs.length).length kp,.map (some bm)] 147 (0,0))) bw 3 = some (.slice ph hs.length kh):=by rw [rdc_sng]; rfl
 have w4:rdc (sng bw (.cells #[.slice pq qs.length kq,.slice pc cs.length kc,.slice pb bs.length kb,.slice ph hs.length kh,int d.s,int d.d,int d.v,int d.r,int d.e,.slice pl (placesA d qs.length).length kp,.map (some bm)] 147 (0,0))) bw 4 = some (int d.s):=by rw [rdc_sng]; rfl
 have w5:rdc (sng bw (.cells #[.slice pq qs.length kq,.slice pc cs.length kc,.slice pb bs.length kb,.slice ph hs.length kh,int d.s,int d.d,int d.v,int d.r,int d.e,.slice pl (placesA d qs.length).length kp,.map (some bm)] 147 (0,0))) bw 5 = some (int d.d):=by rw [rdc_sng]; rfl
 have w6:rdc (sng bw (.cells #[.slice pq qs.length kq,.slice pc cs.length kc,.slice pb bs.length kb,.slice ph hs.length kh,int d.s,int d.d,int d.v,int d.r,int d.e,.slice pl (placesA d qs.length).length kp,.map (some bm)] 147 (0,0))) bw 6 = some (int d.v):=by rw [rdc_sng]; rfl
 have w7:rdc (sng bw (.cells #[.slice pq qs.length kq,.slice pc cs.length kc,.slice pb bs.length kb,.slice ph hs.length kh,int d.s,int d.d,int d.v,int d.r,int d.e,.slice pl (placesA d qs.length).length kp,.map (some bm)] 147 (0,0))) bw 7 = some (int d.r):=by rw [rdc_sng]; rfl
 have w8:rdc (sng bw (.cells #[.slice pq qs.length kq,.slice pc cs.length kc,.slice pb bs.length kb,.slice ph hs.length kh,int d.s,int d.d,int d.v,int d.r,int d.e,.slice pl (placesA d qs.length).length kp,.map (some bm)] 147 (0,0))) bw 8 = some (int d.e):=by rw [rdc_sng]; rfl
 have w9:rdc (sng bw (.cells #[.slice pq qs.length kq,.slice pc cs.length kc,.slice pb bs.length kb,.slice ph hs.length kh,int d.s,int d.d,int d.v,int d.r,int d.e,.slice pl (placesA d qs.length).length kp,.map (some bm)] 147 (0,0))) bw 9 = some (.slice pl (placesA d qs.length).length kp):=by rw [rdc_sng]; rfl
 have w10:rdc (sng bw (.cells #[.slice pq qs.length kq,.slice pc cs.length kc,.slice pb bs.length kb,.slice ph hs.length kh,int d.s,int d.d,int d.v,int d.r,int d.e,.slice pl (placesA d qs.length).length kp,.map (some bm)] 147 (0,0))) bw 10 = some (.map (some bm)):=by rw [rdc_sng]; rfl
 have hg:=graph_spec hT bw bm kp pl χ M d h h0 hpl hM
 have hit:=fun c1=>arcs_iter hT bw bm c1 kp pl χ M d h h0 hpl hM
 have hEl:=ea_len qs cs bs hs d h
 have hAl:(arcsG qs cs bs hs d).length = (arcsE qs cs bs hs d).length:=by unfold arcsG; rw [List.length_map]
 have hone:∀ z n (xs:List Value) (χ:PH),OwnS 62 3 z n xs χ → z.oneCell' = true:=fun z n xs χ h=>by obtain ⟨_,_,rfl⟩:=h.form; rfl
 refine Acc ?_;refine Acb ?_;refine Aad ?_;refine CB hg rfl rfl rdZ rfl rfl ?_;rintro _ σg ⟨ug,rfl,hOg⟩
 have hAt:ArcsAt σg ug (arcsG qs cs bs hs d):=hOg.at
 obtain ⟨pg,kg,rfl⟩:=hOg.form
 refine AT (ρ:=σg) takeZ ?_;refine AY ?_; rintro _ _ ⟨b,rfl,rfl⟩;refine AU ?_; rintro _ _ ⟨rfl,rfl⟩;refine Acg ?_;refine Aac ?_;refine AF ?_;refine Aco ?_
 revert b; intro bg
 refine AT (ρ:=sng bg _) takeZ ?_
 have gg0:rdc (sng bg (.cells #[int (vsN qs d),.slice pg (arcsG qs cs bs hs d).length kg,int (vtx d d.s d.r),int (vtx d d.d d.e)] 75 (0,0))) bg 0 = some (int (vsN qs d)):=by rw [rdc_sng]; rfl
 have gg1:rdc (sng bg (.cells #[int (vsN qs d),.slice pg (arcsG qs cs bs hs d).length kg,int (vtx d d.s d.r),int (vtx d d.d d.e)] 75 (0,0))) bg 1 = some (.slice pg (arcsG qs cs bs hs d).length kg):=by rw [rdc_sng]; rfl
 have gg2:rdc (sng bg (.cells #[int (vsN qs d),.slice pg (arcsG qs cs bs hs d).length kg,int (vtx d d.s d.r),int (vtx d d.d d.e)] 75 (0,0))) bg 2 = some (int (vtx d d.s d.r)):=by rw [rdc_sng]; rfl
 have gg3:rdc (sng bg (.cells #[int (vsN qs d),.slice pg (arcsG qs cs bs hs d).length kg,int (vtx d d.s d.r),int (vtx d d.d d.e)] 75 (0,0))) bg 3 = some (int (vtx d d.d d.e)):=by rw [rdc_sng]; rfl
 have hval:=flowValue_spec σg ω _ _ (vsN qs d) (vtx d d.s d.r) (vtx d d.d d.e) (arcsG qs cs bs hs d) fl hAt hu (by omega)
 skip
 refine A3 hval rfl rfl rdZ rfl rfl ?_;rintro _ rfl;rw [← hEv]
 generalize (Go.Flow.valueSpec (vsN qs d) (arcsG qs cs bs hs d) fl (vtx d d.s d.r) (vtx d d.d d.e)).1 = vv
 by_cases hz:shipsE qs cs bs hs d fl = 0
 rotate_left
 ·have hR:shipsR qs cs bs hs d fl = []:=by unfold shipsR; rw [if_neg hz]
  rw [hR];refine Ac7 ?_;refine Ab9 ?_;refine Adf ?_;exact AI (res2 rfl rfl rfl) rsubZ selZ ⟨emp,⟨_,rfl,OwnS.nil _ _⟩,rfl⟩
 have hR:shipsR qs cs bs hs d fl = shipsF (arcsE qs cs bs hs d) fl:=by unfold shipsR; rw [if_pos hz]
 have hfl:=shipsE_len hv hz
 rw [hz,hR];refine Ac7 ?_;refine Abb ?_;refine Aa ?_;refine B6 ?_; rintro _ _ ⟨b,rfl,rfl⟩;refine AE ?_;refine Aa ?_;refine B6 ?_; rintro _ _ ⟨b,rfl,rfl⟩;refine BF ?_; rintro _ _ ⟨rfl,rfl⟩;refine AE ?_;refine Aai ?_
 revert b; intro b14
 revert b; intro b13
 refine BC (arcs_spec bw) rfl rfl Takes.nil (fun τ hτ=>by simp at hτ) rfl rfl ?_
 rintro _ _ ⟨c1,rfl,rfl⟩;refine AT (ρ:=sng c1 _) takeZ ?_;refine AE ?_;refine AO ?_
 refine DB (gf:=131) (cap:=[.pointer (some ⟨c1,0,none⟩)]) (ps:=[44]) (X:=Nat × Value × PH) rfl Tryz.func131 rfl rfl
  (hit c1) ?_
  (fun i x=>x.1 = i ∧ OwnS 62 3 x.2.1 (shipsF ((arcsE qs cs bs hs d).take i) (fl.take i)).length ((shipsF ((arcsE qs cs bs hs d).take i) (fl.take i)).flatMap encX) x.2.2)
  (fun x=>[sng b14 (.cells #[int x.1] 3 (0,0)),sng b13 (.cells #[x.2.1] 38 (0,0)),x.2.2]) (fun _ _=>False) (0,.slice none 0 0,emp) rfl takesZ ⟨rfl,OwnS.nil _ _⟩ ?_ ?_ ?_
 ·intro σ' hσ
  simp only [List.mem_cons,List.not_mem_nil,or_false] at hσ ⊢
  rcases hσ with h | h | h | h | h | h | h | h <;> simp [h]
 ·rintro lo r i ⟨i',u,σ1⟩ vs hvs ⟨hi',hO1⟩ hps has hbd hst hpe hfr
  obtain ⟨st,pe,fnn,tm,prm,asg,bdy,df⟩:=r
  simp only at hps has hbd hst hpe hfr;subst hps has hbd hst hpe;rw [List.getElem?_map] at hvs
  obtain ⟨x,hx,rfl⟩:=Option.map_eq_some_iff.1 hvs
  dsimp only at hi' hO1
  subst hi'
  have hil:=(List.getElem?_eq_some_iff.1 hx).1
  have hy:=List.getElem?_eq_getElem (show i' < fl.length by omega)
  have hnx:=shipsF_next hfl hx hy
  obtain ⟨bo,oo,epf,gf⟩:=hrf.int hy
  have hsl:=shipsF_len ((arcsE qs cs bs hs d).take i') (fl.take i')
  rw [List.length_take] at hsl;simp only [hnx]
  generalize fl[i'] = y at hy gf hnx
  generalize shipsF ((arcsE qs cs bs hs d).take i') (fl.take i') = O at hO1 hsl
  have hu1:=hone _ _ _ _ hO1
  subst epf
  refine yield_spec hfr rfl (by intro p hp; simp at hp; omega) putiZ (fun N' β'=>?_)
  dsimp only
  refine AA ?_;refine AY ?_; rintro _ _ ⟨b,rfl,rfl⟩;refine AU ?_; rintro _ _ ⟨rfl,rfl⟩;refine Aev ?_;refine C7 takeZ rfl ?_
  revert b; intro bx
  refine AT (ρ:=sng bx _) takeZ ?_
  have px0:rdc (sng bx (.cells #[int x.a.f,int x.a.t,int x.a.c,int x.c,int x.t] 169 (0,0))) bx 0 = some (int x.a.f):=by rw [rdc_sng]; rfl
  have px1:rdc (sng bx (.cells #[int x.a.f,int x.a.t,int x.a.c,int x.c,int x.t] 169 (0,0))) bx 1 = some (int x.a.t):=by rw [rdc_sng]; rfl
  have px2:rdc (sng bx (.cells #[int x.a.f,int x.a.t,int x.a.c,int x.c,int x.t] 169 (0,0))) bx 2 = some (int x.a.c):=by rw [rdc_sng]; rfl
  have px3:rdc (sng bx (.cells #[int x.a.f,int x.a.t,int x.a.c,int x.c,int x.t] 169 (0,0))) bx 3 = some (int x.c):=by rw [rdc_sng]; rfl
  have px4:rdc (sng bx (.cells #[int x.a.f,int x.a.t,int x.a.c,int x.c,int x.t] 169 (0,0))) bx 4 = some (int x.t):=by rw [rdc_sng]; rfl
  by_cases hc:0 ≤ x.c
  ·by_cases hy0:0 < y
   ·rw [if_pos ⟨hc,hy0⟩]
    refine AO ?_;refine Ac8 ?_;refine CL ?_;refine AB ?_;refine AF ?_;refine AF ?_;refine Abx ?_;refine CQ ?_;refine AN ?_;refine Aah ?_
    refine A8 (.q 0 (.q 1 (.q 2 (.q 3 (.q 4 (.q 5 (.q 6 (.q 7 (.q 8 (.q 9 (.l 10 .e (.l 11 .b (.l 12 .b .nil))))))))))))) [] rfl (by kernel_rfl) Sel.nil ?_
    refine AR ?_;refine Acn ?_;refine AR ?_;refine AR ?_;refine C9 ?_;refine AR ?_;refine C4 ?_;refine BK ?_; rintro _ _ ⟨b,rfl,rfl⟩
    refine B7 (a_b rfl (B8 (by_:=24) (s:=3) (news:=[int x.c,int x.t,int y]) rfl rfl rfl rfl rfl rfl rfl hO1 takeZ (cells_own memZ) rfl (by (repeat (first | exact (fun v hv=>absurd hv List.not_mem_nil) | (refine List.forall_mem_cons.2 ⟨?_,?_⟩; (focus (first | exact rfl | assumption))))); first | done | fail) (by omega) (by simp only [maxLen]; omega) (by omega)) rfl rfl rfl (fun _ _ _ w hw=>hw.sel Sel.nil) ?_)
    rintro u1 _ ⟨σ2,hO2,rfl⟩
    have hu2:=hone _ _ _ _ hO2
    refine DQ ?_; rintro _ _ ⟨rfl,rfl⟩;refine A5 ?_;refine AA ?_;refine AF ?_;refine A7 ?_;refine BF ?_; rintro _ _ ⟨rfl,rfl⟩;refine Aer ?_;refine B4 takeZ rsubZ selZ ⟨(i' + 1,u1,σ2),.inl ⟨rfl,⟨rfl,?_⟩,rfl⟩⟩
    dsimp only
    rw [List.length_append,List.flatMap_append];exact hO2
   ·rw [if_neg (fun h=>hy0 h.2),List.append_nil]
    refine AO ?_;refine Ac8 ?_;refine CL ?_;refine AB ?_;refine AF ?_;refine AF ?_;refine Abx ?_;refine B0 ?_;refine AN ?_;refine Aaj ?_;refine AA ?_;refine AF ?_;refine A7 ?_;refine BF ?_; rintro _ _ ⟨rfl,rfl⟩;refine Aer ?_;exact B4 takeZ rsubZ selZ ⟨(i' + 1,u,σ1),.inl ⟨rfl,⟨rfl,hO1⟩,rfl⟩⟩
  ·rw [if_neg (fun h=>hc h.1),List.append_nil]
   refine AO ?_;refine Ac8 ?_;refine BL ?_;refine Abz ?_;refine Abh ?_;refine AA ?_;refine AF ?_;refine A7 ?_;refine BF ?_; rintro _ _ ⟨rfl,rfl⟩;refine Aer ?_;exact B4 takeZ rsubZ selZ ⟨(i' + 1,u,σ1),.inl ⟨rfl,⟨rfl,hO1⟩,rfl⟩⟩
 ·rintro b9 ⟨i',u,σ1⟩ ⟨_,hO1⟩
  rw [List.length_map,List.take_length,← hfl,List.take_length] at hO1
  dsimp only at hO1
  have hu1:=hone _ _ _ _ hO1
  refine A2 ?_;refine Abk ?_;refine Aan ?_;refine EG (v:=.tuple #[u,int 0]) (Marks.cons .here .nil) ?_ rsubZ ?_ ⟨σ1,⟨u,rfl,hO1⟩,rfl⟩
  ·exact res2 rfl rfl rfl
  ·exact selZ
 ·rintro _ _ _ h; exact h.elim
end Go.Proofs.YtjehnjhkcmobcaaGreat
/- Slices of sets. -/
namespace Go.Proofs.YtjehnjhkcmobcaaGreat
open Go.Eng Go.Step
set_option maxRecDepth 100000
set_option maxHeartbeats 4000000

abbrev Sq:=(Option Addr × Nat) × List (Int × Int)
def encQ (x:Sq):List Value:=[.slice x.1.1 x.2.length x.1.2]
theorem encQ_len (x:Sq):(encQ x).length = 1:=rfl
abbrev cuL (L:List Sq):Cu:=L.map (fun x=>x.2)
def CutL (γ κ:PH) (v:Value) (L:List Sq):Prop:=SlE encQ 1 γ v L ∧ ∀ x ∈ L,SpAt κ (.slice x.1.1 x.2.length x.1.2) x.2 ∧ x.2.length ≤ 9223372036854775807
theorem CutL.row {γ κ:PH} {p:Option Addr} {n kk:Nat} {L:List Sq} (h:CutL γ κ (.slice p n kk) L):CutRow γ κ p (cuL L):=fun i l hl=>by
 rw [List.getElem?_map] at hl
 obtain ⟨x,hx,rfl⟩:=Option.map_eq_some_iff.1 hl
 obtain ⟨q,k,e,hr⟩:=h.1.val encQ_len
 simp only [Value.slice.injEq] at e
 obtain ⟨b,o,e2,hrd⟩:=hr i x hx
 obtain ⟨h1,h2⟩:=h.2 x (List.mem_of_getElem? hx)
 refine ⟨b,o,x.1.1,x.1.2,by rw [e.1,e2],?_,h1,h2⟩
 have:=hrd 0 _ rfl
 rwa [Nat.mul_one,Nat.add_zero] at this
end Go.Proofs.YtjehnjhkcmobcaaGreat
/- The ends of two sets, in their order. -/
namespace Go.Proofs.YtjehnjhkcmobcaaGreat
open Go.Eng Go.Step
set_option maxRecDepth 100000
set_option maxHeartbeats 4000000

theorem sideNext_spec (ρ:PH) (v:Value) (l:Iv) (b p:Nat) (hv:SpAt ρ v l) (hl:l.length ≤ 4611686018427387903) (hp:p ≤ 2 * l.length) :
  Ans Tryz.prog (fv 207) [.pointer (some ⟨b,0,none⟩)] [sng b (.cells #[v,int ((p / 2:Nat):Int),.bool (oddB p)] 294 (0,0)),ρ] (fun r=>r = .tuple #[int ((tog l).getD p 0),.bool (decide (p < 2 * l.length))]):=by
 obtain ⟨q,c,rfl,hr⟩:=hv.val encS_len
 have hod:=oddB_cases p
 obtain ⟨i,hi⟩:∃ i,p / 2 = i:=⟨_,rfl⟩
 rw [hi] at hod ⊢
 have ct:=rdB b 294 [.slice q l.length c,int ((i:Nat):Int),.bool (oddB p)]
 have ct0:=rdC ct 0
 have ct1:=rdC ct 1
 have ct2:=rdC ct 2
 refine spec_in (cap:=[]) Tryz.func207 rfl rfl Tryz.ntmps207 rfl envZ (fun N β=>?_)
 by_cases h0:p = 2 * l.length
 ·have hR:(tog l).getD p 0 = 0:=by rw [List.getD_eq_getElem?_getD,List.getElem?_eq_none (by rw [tog_len]; omega)]; rfl
  rw [hR,decide_eq_false (by omega)]
  have hil:i = l.length:=by omega
  refine Acj ?_;refine Aau ?_;refine AC ?_
  refine A8 (.q 0 (.q 1 (.q 2 (.q 3 (.q 4 (.q 5 (.q 6 (.q 7 (.q 8 (.q 9 (.q 10 .nil))))))))))) [] rfl (by kernel_rfl) selZ ?_
  refine Aeq ?_;refine EW ?_;refine D9 ?_;refine BT ?_;refine Ab0 ?_;refine Acj ?_;exact AI (res2 rfl rfl rfl) rsubZ selZ ⟨rfl,rfl⟩
 have hil:i < l.length:=by omega
 obtain ⟨g1,g2⟩:=tog_get l i _ (List.getElem?_eq_getElem hil)
 rw [decide_eq_true (show p < 2 * l.length by omega)]
 obtain ⟨b4,o4,rfl,hrd,x0,x1⟩:=spRow hr (List.getElem?_eq_getElem hil)
 rcases hod with ⟨ho,hp2⟩ | ⟨ho,hp2⟩
 ·have hR:(tog l).getD p 0 = l[i].2:=by rw [List.getD_eq_getElem?_getD,hp2,g2]; rfl
  rw [hR];rw [ho] at ct ct0 ct1 ct2 ⊢
  generalize l[i] = x at hrd x0 x1
  refine Acj ?_;refine Aau ?_;refine AC ?_
  refine A8 (.q 0 (.q 1 (.q 2 (.q 3 (.q 4 (.q 5 (.q 6 (.q 7 (.q 8 (.q 9 (.q 10 .nil))))))))))) [] rfl (by kernel_rfl) selZ ?_
  refine Aeq ?_;refine EW ?_;refine DD ?_;refine Adm ?_;refine AL rfl ?_;refine Aad ?_;refine Aet ?_;refine Aaa ?_;refine AM rfl ?_;refine AC ?_
  refine A8 (.q 0 (.q 1 (.q 2 (.q 3 (.q 4 (.q 5 (.q 6 (.q 7 (.q 8 (.q 9 (.q 10 (.q 11 (.q 12 .nil))))))))))))) [] rfl (by kernel_rfl) selZ ?_
  refine Aeq ?_;refine BI ?_;refine Ab8 ?_;refine BT ?_;refine Adm ?_
  skip
  exact AI (res2 rfl rfl rfl) rsubZ selZ ⟨rfl,rfl⟩
 ·have hR:(tog l).getD p 0 = l[i].1:=by rw [List.getD_eq_getElem?_getD,hp2,g1]; rfl
  rw [hR];rw [ho] at ct ct0 ct1 ct2 ⊢
  generalize l[i] = x at hrd x0 x1
  refine Acj ?_;refine Aau ?_;refine AC ?_
  refine A8 (.q 0 (.q 1 (.q 2 (.q 3 (.q 4 (.q 5 (.q 6 (.q 7 (.q 8 (.q 9 (.q 10 .nil))))))))))) [] rfl (by kernel_rfl) selZ ?_
  refine Aeq ?_;refine EW ?_;refine DD ?_;refine Adm ?_;refine AL rfl ?_;refine Aad ?_;refine Aet ?_;refine Aaa ?_;refine Aae ?_;refine A2 ?_;refine AC ?_
  refine A8 (.q 0 (.q 1 (.q 2 (.q 3 (.q 4 (.q 5 (.q 6 (.q 7 (.q 8 (.q 9 (.q 10 (.q 11 (.q 12 .nil))))))))))))) [] rfl (by kernel_rfl) selZ ?_
  refine Aeq ?_;refine BI ?_;refine Acl ?_;refine BT ?_;refine Adm ?_
  skip
  exact AI (res2 rfl rfl rfl) rsubZ selZ ⟨rfl,rfl⟩
set_option maxHeartbeats 16000000 in
theorem sidePass_spec (ρ:PH) (v:Value) (l:Iv) (b p:Nat) (t:Int) (hv:SpAt ρ v l) (hl:l.length ≤ 4611686018427387903) (hp:p ≤ 2 * l.length) :
  Eng.Spec Tryz.prog (fv 208) [.pointer (some ⟨b,0,none⟩),int t] [ρ] [sng b (.cells #[v,int ((p / 2:Nat):Int),.bool (oddB p)] 294 (0,0))] (fun r H'=>r = .tuple #[] ∧ H' = [sng b (.cells #[v,int ((stp (tog l) t p / 2:Nat):Int),.bool (oddB (stp (tog l) t p))] 294 (0,0))]):=by
 have hn:=sideNext_spec ρ v l b p hv hl hp
 obtain ⟨q,c,rfl,hr⟩:=hv.val encS_len
 refine spec_in (cap:=[]) Tryz.func208 rfl rfl Tryz.ntmps208 rfl envZ (fun N β=>?_)
 refine Aai ?_;refine A3 hn rfl rfl rdZ rfl rfl ?_;rintro _ rfl
 by_cases h1:p < 2 * l.length
 rotate_left
 ·have hs:stp (tog l) t p = p:=by unfold stp; rw [if_neg (by rw [tog_len]; omega)]
  rw [hs,decide_eq_false h1];refine Ac7 ?_;refine BE ?_;refine Abw ?_;refine Aah ?_;exact AI (res0 rfl) rsubZ selZ ⟨rfl,rfl⟩
 rw [decide_eq_true h1]
 by_cases h2:(tog l).getD p 0 = t
 rotate_left
 ·have hs:stp (tog l) t p = p:=by unfold stp; rw [if_neg (fun h=>h2 h.2)]
  rw [hs]
  generalize (tog l).getD p 0 = z at h2
  refine Ac7 ?_;refine BE ?_;refine Adg ?_;refine CK ?_;refine AJ ?_;refine Aah ?_;exact AI (res0 rfl) rsubZ selZ ⟨rfl,rfl⟩
 have hs:stp (tog l) t p = p + 1:=by unfold stp; rw [if_pos ⟨by rw [tog_len]; exact h1,h2⟩]
 rw [hs,h2]
 have hod:=oddB_cases p
 have hi2:(p + 1) / 2 = if oddB p = true then p / 2 + 1 else p / 2:=by
  rcases hod with ⟨ho,hp2⟩ | ⟨ho,hp2⟩
  ·rw [if_pos ho]; omega
  ·rw [if_neg (by rw [ho]; simp)]; omega
 rw [hi2,oddB_succ]
 obtain ⟨i,hi⟩:∃ i,p / 2 = i:=⟨_,rfl⟩
 rw [hi] at hod ⊢;clear hn
 rcases hod with ⟨ho,hp2⟩ | ⟨ho,hp2⟩
 ·rw [ho,if_pos rfl]
  refine Ac7 ?_;refine BE ?_;refine Adg ?_;refine BG ?_;refine Abh ?_;refine Aai ?_;refine Aet ?_;refine Aah ?_;refine AA ?_;refine AB ?_;refine Aet ?_;refine A7 ?_;refine BX ?_;refine AG ?_;refine BF ?_; rintro _ _ ⟨rfl,rfl⟩;refine AE ?_;refine Acv ?_;refine Aet ?_;refine BE ?_;refine BX ?_;refine AG ?_;refine BF ?_; rintro _ _ ⟨rfl,rfl⟩;refine AE ?_;exact CO (res0 rfl) rsubZ selZ ⟨rfl,rfl⟩
 ·rw [ho,if_neg (by simp)]
  refine Ac7 ?_;refine BE ?_;refine Adg ?_;refine BG ?_;refine Abh ?_;refine Aai ?_;refine Aet ?_;refine Aaj ?_;refine Acv ?_;refine Aet ?_;refine BE ?_;refine BX ?_;refine AG ?_;refine BF ?_; rintro _ _ ⟨rfl,rfl⟩;refine AE ?_;exact CO (res0 rfl) rsubZ selZ ⟨rfl,rfl⟩
end Go.Proofs.YtjehnjhkcmobcaaGreat
/- The ends of two sets, in their order: an iterator. -/
namespace Go.Proofs.YtjehnjhkcmobcaaGreat
open Go.Eng Go.Step
set_option maxRecDepth 100000
set_option maxHeartbeats 4000000

def encPt (x:Int × Bool × Bool):List Value:=[int x.1,.agg #[.bool x.2.1,.bool x.2.2]]
set_option maxHeartbeats 32000000 in
theorem points_iter (ρ τ:PH) (va vb:Value) (a b:Iv) (b1 b2:Nat) (ha:SpAt ρ va a) (hb:SpAt τ vb b) (hla:a.length ≤ 1000000) (hlb:b.length ≤ 1000000) :
  Iter Tryz.prog (.func (.func 206) #[] #[.pointer (some ⟨b1,0,none⟩),.pointer (some ⟨b2,0,none⟩)]) [sng b1 (.cells #[va] 148 (0,0)),sng b2 (.cells #[vb] 148 (0,0)),ρ,τ] ((mrg (tog a) false (tog b) false).map encPt):=by
 intro y S Own Inv Stop Ry hy hyl σ0 hI0
 obtain ⟨yl,rfl⟩:=hyl
 have hna:=fun bx p hp=>sideNext_spec ρ va a bx p ha (by omega) hp
 have hnb:=fun bx p hp=>sideNext_spec τ vb b bx p hb (by omega) hp
 have hpa:=fun bx p t hp=>sidePass_spec ρ va a bx p t ha (by omega) hp
 have hpb:=fun bx p t hp=>sidePass_spec τ vb b bx p t hb (by omega) hp
 obtain ⟨qa,ca,rfl,hra⟩:=ha.val encS_len
 obtain ⟨qb,cb,rfl,hrb⟩:=hb.val encS_len
 have c1:rdc (sng b1 (.cells #[.slice qa a.length ca] 148 (0,0))) b1 0 = some (.slice qa a.length ca):=by rw [rdc_sng]; rfl
 have c2:rdc (sng b2 (.cells #[.slice qb b.length cb] 148 (0,0))) b2 0 = some (.slice qb b.length cb):=by rw [rdc_sng]; rfl
 have la:=tog_len a
 have lb:=tog_len b
 simp only [List.cons_append,List.nil_append]
 refine spec_in (cap:=[.pointer (some ⟨b1,0,none⟩),.pointer (some ⟨b2,0,none⟩)]) Tryz.func206 rfl rfl Tryz.ntmps206 rfl envZ (fun N β=>?_)
 refine AC ?_
 refine D4 (X:=Nat × Nat) [0,1,2] (fun _=>True) (fun x=>[(4,.pointer (some ⟨x.1,0,none⟩)),(5,.pointer (some ⟨x.2,0,none⟩))]) (fun x=>sng x.2 (.cells #[.slice qb b.length cb,int ((0 / 2:Nat):Int),.bool (oddB 0)] 294 (0,0)) :: sng x.1 (.cells #[.slice qa a.length ca,int ((0 / 2:Nat):Int),.bool (oddB 0)] 294 (0,0)) :: Own σ0) pickZ ?_ ?_
 ·refine A8 (.q 0 (.q 1 (.q 3 (.q 4 (.l2 2 .e (.q 6 (.l 5 .e (.q 7 .nil))) 5 .e (.l 2 .e (.q 6 (.q 7 .nil)))))))) [] rfl (by kernel_rfl) Sel.nil ?_
  repeat' (first
   | (refine BT ?_)
   | (refine AR ?_)
   | (refine C4 ?_)
   | (refine A5 ?_)
   | (refine C8 ?_ ?_)
   | (refine F0 ?_; rintro _ _ ⟨b,rfl,rfl⟩)
   | (refine G5 ?_; rintro _ _ ⟨b,rfl,rfl⟩)
   | fail)
  ·refine BW (_,_) trivial covZ ?_
   exact Sel.refl
  ·refine CS (List.Perm.swap _ _ _) ?_
   refine BW (_,_) trivial covZ ?_;exact Sel.refl
 rintro ⟨bx,by_⟩ _
 dsimp only
 refine AO ?_
 refine BA [0,1,2,4,5] (X:=Nat × Nat × Nat × S) (0,0,0,σ0) (fun x=>x.1 ≤ (mrg (tog a) false (tog b) false).length ∧ x.2.1 ≤ 2 * a.length ∧ x.2.2.1 ≤ 2 * b.length ∧ (mrg (tog a) false (tog b) false).drop x.1 = mrg ((tog a).drop x.2.1) (oddB x.2.1) ((tog b).drop x.2.2.1) (oddB x.2.2.1) ∧ Inv x.1 x.2.2.2) (fun _=>[]) (fun x=>sng by_ (.cells #[.slice qb b.length cb,int ((x.2.2.1 / 2:Nat):Int),.bool (oddB x.2.2.1)] 294 (0,0)) :: sng bx (.cells #[.slice qa a.length ca,int ((x.2.1 / 2:Nat):Int),.bool (oddB x.2.1)] 294 (0,0)) :: Own x.2.2.2) (fun x=>(2 * a.length - x.2.1) + (2 * b.length - x.2.2.1)) pickZ ⟨by dsimp only; omega,by dsimp only; omega,by dsimp only; omega,rfl,hI0⟩ covZ Sel.refl ?_
 rintro ⟨k,p,q,σ'⟩ ⟨hk,hp,hq,hS,hI⟩
 dsimp only at hk hp hq hS hI ⊢
 have h1:=hna bx p hp
 have h2:=hnb by_ q hq
 refine AO ?_;refine Aad ?_;refine A3 h1 rfl rfl rdZ rfl rfl ?_;rintro _ rfl;refine Ac7 ?_;refine A3 h2 rfl rfl rdZ rfl rfl ?_;rintro _ rfl
 generalize hm:(tog a).getD p 0 = m
 generalize hn:(tog b).getD q 0 = n
 by_cases h1:p < 2 * a.length
 ·rw [decide_eq_true h1]
  by_cases h2:q < 2 * b.length ∧ n < m
  ·have hX:nxtT (tog a) (tog b) p q = n:=by unfold nxtT; rw [if_pos (by omega),if_pos (by rw [hm,hn]; omega),hn]
   rw [decide_eq_true h2.1]
   have h2n:=h2.2
   have hlive:p < (tog a).length ∨ q < (tog b).length:=by omega
   have hS':=mrg_at (by omega) (by omega) hlive
   have hgo:=stp_go hlive
   rw [hX] at hS' hgo;rw [← hS] at hS'
   obtain ⟨g1,g2,g3⟩:=drop_head hS'
   have p1:=stp_le (A:=tog a) (t:=n) (p:=p) (by omega)
   have q1:=stp_le (A:=tog b) (t:=n) (p:=q) (by omega)
   have hy1:=hy k σ' (encPt (n,oddB (stp (tog a) n p),oddB (stp (tog b) n q))) (by rw [List.getElem?_map,g1]; rfl) hI
   have k1:=hpa bx p n hp
   have k2:=hpb by_ q n hq
   generalize stp (tog a) n p = p' at g2 hy1 k1 p1 hgo
   generalize stp (tog b) n q = q' at g2 hy1 k2 q1 hgo
   refine Acc ?_;refine BE ?_;refine Aay ?_;refine Abh ?_;refine Abs ?_;refine Aai ?_;refine BE ?_;refine Aa1 ?_;refine Adg ?_;refine BB ?_;refine AN ?_;refine AJ ?_;refine Aah ?_;refine AA ?_;refine AB ?_;refine Aa8 ?_;refine AB ?_;refine BC k1 rfl rfl takesZ rdZ rfl rfl ?_;rintro _ _ ⟨rfl,rfl⟩;refine AE ?_;refine Abn ?_;refine BC k2 rfl rfl takesZ rdZ rfl rfl ?_;rintro _ _ ⟨rfl,rfl⟩;refine Aal ?_
   refine A8 (.q 0 (.q 1 (.q 2 (.q 3 (.q 4 (.q 5 (.q 6 (.q 7 (.q 8 (.q 9 (.q 10 (.l 11 .b (.q 12 .nil))))))))))))) [] rfl (by kernel_rfl) Sel.nil ?_
   refine Aa7 ?_;refine Aeq ?_
   focus ((refine' CR rfl _ rfl rfl rfl rfl _; rotate_left; (focus (apply DR; exact rfl; exact rfl; exact rfl; exact rfl; exact rfl; exact rfl; exact rfl))))
   refine B7 (D6 rfl hy1 rfl rfl (Takes.skip (Takes.skip Takes.all)) (fun τ hτ=>.inl (by simp [hτ])) rfl rfl (fun _ _ _ w hw=>hw.sel Sel.nil) ?_)
   rintro _ H' ⟨σ1,rfl,⟨rfl,hI1⟩ | ⟨rfl,hSt⟩⟩
   ·refine EM (H':=_ :: _ :: Own σ1) (List.perm_append_comm (l₂:=[_,_])) ?_
    refine CV ?_;refine Ab5 ?_;refine A2 ?_
    exact AX (k + 1,p',q',σ1) ⟨by dsimp only; omega,by dsimp only; omega,by dsimp only; omega,g2,hI1⟩ (by dsimp only; omega) covZ Sel.refl
   ·refine CV ?_
    refine Ab0 ?_
    exact AI (res0 rfl) (fun _ h=>h) Sel.left ⟨σ1,rfl,.inr hSt⟩
  ·have hX:nxtT (tog a) (tog b) p q = m:=by unfold nxtT; rw [if_pos (by omega),if_neg (by rw [hm,hn]; omega),hm]
   by_cases h3:q < 2 * b.length
   ·rw [decide_eq_true h3]
    have h2n:¬ n < m:=fun h=>h2 ⟨h3,h⟩
    have hlive:p < (tog a).length ∨ q < (tog b).length:=by omega
    have hS':=mrg_at (by omega) (by omega) hlive
    have hgo:=stp_go hlive
    rw [hX] at hS' hgo;rw [← hS] at hS'
    obtain ⟨g1,g2,g3⟩:=drop_head hS'
    have p1:=stp_le (A:=tog a) (t:=m) (p:=p) (by omega)
    have q1:=stp_le (A:=tog b) (t:=m) (p:=q) (by omega)
    have hy1:=hy k σ' (encPt (m,oddB (stp (tog a) m p),oddB (stp (tog b) m q))) (by rw [List.getElem?_map,g1]; rfl) hI
    have k1:=hpa bx p m hp
    have k2:=hpb by_ q m hq
    generalize stp (tog a) m p = p' at g2 hy1 k1 p1 hgo
    generalize stp (tog b) m q = q' at g2 hy1 k2 q1 hgo
    refine Acc ?_;refine BE ?_;refine Aay ?_;refine Abh ?_;refine Abs ?_;refine Aai ?_;refine BE ?_;refine Aa1 ?_;refine Adg ?_;refine A0 ?_;refine AN ?_;refine Abh ?_;refine Abn ?_;refine BC k1 rfl rfl takesZ rdZ rfl rfl ?_;rintro _ _ ⟨rfl,rfl⟩;refine AE ?_;refine Abn ?_;refine BC k2 rfl rfl takesZ rdZ rfl rfl ?_;rintro _ _ ⟨rfl,rfl⟩;refine Aal ?_
    refine A8 (.q 0 (.q 1 (.q 2 (.q 3 (.q 4 (.q 5 (.q 6 (.q 7 (.q 8 (.q 9 (.q 10 (.l 11 .b (.q 12 .nil))))))))))))) [] rfl (by kernel_rfl) Sel.nil ?_
    refine Aa7 ?_;refine Aeq ?_
    focus ((refine' CR rfl _ rfl rfl rfl rfl _; rotate_left; (focus (apply DR; exact rfl; exact rfl; exact rfl; exact rfl; exact rfl; exact rfl; exact rfl))))
    refine B7 (D6 rfl hy1 rfl rfl (Takes.skip (Takes.skip Takes.all)) (fun τ hτ=>.inl (by simp [hτ])) rfl rfl (fun _ _ _ w hw=>hw.sel Sel.nil) ?_)
    rintro _ H' ⟨σ1,rfl,⟨rfl,hI1⟩ | ⟨rfl,hSt⟩⟩
    ·refine EM (H':=_ :: _ :: Own σ1) (List.perm_append_comm (l₂:=[_,_])) ?_
     refine CV ?_;refine Ab5 ?_;refine A2 ?_
     exact AX (k + 1,p',q',σ1) ⟨by dsimp only; omega,by dsimp only; omega,by dsimp only; omega,g2,hI1⟩ (by dsimp only; omega) covZ Sel.refl
    ·refine CV ?_
     refine Ab0 ?_
     exact AI (res0 rfl) (fun _ h=>h) Sel.left ⟨σ1,rfl,.inr hSt⟩
   ·rw [decide_eq_false h3]
    have hlive:p < (tog a).length ∨ q < (tog b).length:=by omega
    have hS':=mrg_at (by omega) (by omega) hlive
    have hgo:=stp_go hlive
    rw [hX] at hS' hgo;rw [← hS] at hS'
    obtain ⟨g1,g2,g3⟩:=drop_head hS'
    have p1:=stp_le (A:=tog a) (t:=m) (p:=p) (by omega)
    have q1:=stp_le (A:=tog b) (t:=m) (p:=q) (by omega)
    have hy1:=hy k σ' (encPt (m,oddB (stp (tog a) m p),oddB (stp (tog b) m q))) (by rw [List.getElem?_map,g1]; rfl) hI
    have k1:=hpa bx p m hp
    have k2:=hpb by_ q m hq
    generalize stp (tog a) m p = p' at g2 hy1 k1 p1 hgo
    generalize stp (tog b) m q = q' at g2 hy1 k2 q1 hgo
    refine Acc ?_;refine BE ?_;refine Aay ?_;refine Abh ?_;refine Abs ?_;refine Aai ?_;refine BE ?_;refine Aa1 ?_;refine Aeb ?_;refine Abh ?_;refine Abn ?_;refine BC k1 rfl rfl takesZ rdZ rfl rfl ?_;rintro _ _ ⟨rfl,rfl⟩;refine AE ?_;refine Abn ?_;refine BC k2 rfl rfl takesZ rdZ rfl rfl ?_;rintro _ _ ⟨rfl,rfl⟩;refine Aal ?_
    refine A8 (.q 0 (.q 1 (.q 2 (.q 3 (.q 4 (.q 5 (.q 6 (.q 7 (.q 8 (.q 9 (.q 10 (.l 11 .b (.q 12 .nil))))))))))))) [] rfl (by kernel_rfl) Sel.nil ?_
    refine Aa7 ?_;refine Aeq ?_
    focus ((refine' CR rfl _ rfl rfl rfl rfl _; rotate_left; (focus (apply DR; exact rfl; exact rfl; exact rfl; exact rfl; exact rfl; exact rfl; exact rfl))))
    refine B7 (D6 rfl hy1 rfl rfl (Takes.skip (Takes.skip Takes.all)) (fun τ hτ=>.inl (by simp [hτ])) rfl rfl (fun _ _ _ w hw=>hw.sel Sel.nil) ?_)
    rintro _ H' ⟨σ1,rfl,⟨rfl,hI1⟩ | ⟨rfl,hSt⟩⟩
    ·refine EM (H':=_ :: _ :: Own σ1) (List.perm_append_comm (l₂:=[_,_])) ?_
     refine CV ?_;refine Ab5 ?_;refine A2 ?_
     exact AX (k + 1,p',q',σ1) ⟨by dsimp only; omega,by dsimp only; omega,by dsimp only; omega,g2,hI1⟩ (by dsimp only; omega) covZ Sel.refl
    ·refine CV ?_
     refine Ab0 ?_
     exact AI (res0 rfl) (fun _ h=>h) Sel.left ⟨σ1,rfl,.inr hSt⟩
 ·rw [decide_eq_false h1]
  by_cases h2:q < 2 * b.length
  ·have hX:nxtT (tog a) (tog b) p q = n:=by unfold nxtT; rw [if_neg (by omega),hn]
   rw [decide_eq_true h2]
   have hlive:p < (tog a).length ∨ q < (tog b).length:=by omega
   have hS':=mrg_at (by omega) (by omega) hlive
   have hgo:=stp_go hlive
   rw [hX] at hS' hgo;rw [← hS] at hS'
   obtain ⟨g1,g2,g3⟩:=drop_head hS'
   have p1:=stp_le (A:=tog a) (t:=n) (p:=p) (by omega)
   have q1:=stp_le (A:=tog b) (t:=n) (p:=q) (by omega)
   have hy1:=hy k σ' (encPt (n,oddB (stp (tog a) n p),oddB (stp (tog b) n q))) (by rw [List.getElem?_map,g1]; rfl) hI
   have k1:=hpa bx p n hp
   have k2:=hpb by_ q n hq
   generalize stp (tog a) n p = p' at g2 hy1 k1 p1 hgo
   generalize stp (tog b) n q = q' at g2 hy1 k2 q1 hgo
   refine Acc ?_;refine BE ?_;refine Aa1 ?_;refine BE ?_;refine AN ?_;refine Aaj ?_;refine Abs ?_;refine Aai ?_;refine BE ?_;refine Ac0 ?_;refine AN ?_;refine Aah ?_;refine AA ?_;refine AB ?_;refine Aa8 ?_;refine AB ?_;refine BC k1 rfl rfl takesZ rdZ rfl rfl ?_;rintro _ _ ⟨rfl,rfl⟩;refine AE ?_;refine Abn ?_;refine BC k2 rfl rfl takesZ rdZ rfl rfl ?_;rintro _ _ ⟨rfl,rfl⟩;refine Aal ?_
   refine A8 (.q 0 (.q 1 (.q 2 (.q 3 (.q 4 (.q 5 (.q 6 (.q 7 (.q 8 (.q 9 (.q 10 (.l 11 .b (.q 12 .nil))))))))))))) [] rfl (by kernel_rfl) Sel.nil ?_
   refine Aa7 ?_;refine Aeq ?_
   focus ((refine' CR rfl _ rfl rfl rfl rfl _; rotate_left; (focus (apply DR; exact rfl; exact rfl; exact rfl; exact rfl; exact rfl; exact rfl; exact rfl))))
   refine B7 (D6 rfl hy1 rfl rfl (Takes.skip (Takes.skip Takes.all)) (fun τ hτ=>.inl (by simp [hτ])) rfl rfl (fun _ _ _ w hw=>hw.sel Sel.nil) ?_)
   rintro _ H' ⟨σ1,rfl,⟨rfl,hI1⟩ | ⟨rfl,hSt⟩⟩
   ·refine EM (H':=_ :: _ :: Own σ1) (List.perm_append_comm (l₂:=[_,_])) ?_
    refine CV ?_;refine Ab5 ?_;refine A2 ?_
    exact AX (k + 1,p',q',σ1) ⟨by dsimp only; omega,by dsimp only; omega,by dsimp only; omega,g2,hI1⟩ (by dsimp only; omega) covZ Sel.refl
   ·refine CV ?_
    refine Ab0 ?_
    exact AI (res0 rfl) (fun _ h=>h) Sel.left ⟨σ1,rfl,.inr hSt⟩
  ·rw [decide_eq_false h2]
   have hpe:p = (tog a).length:=by omega
   have hqe:q = (tog b).length:=by omega
   rw [hpe,hqe,mrg_end] at hS
   have hke:k = (mrg (tog a) false (tog b) false).length:=by
    have:=List.drop_eq_nil_iff.1 hS
    omega
   refine Acc ?_;refine BE ?_;refine Aa1 ?_;refine BE ?_;refine AN ?_;refine Aah ?_
   refine AI (res0 rfl) (fun _ h=>h) (Sel.skip (Sel.skip Sel.refl)) ⟨σ',rfl,.inl ?_⟩
   rw [List.length_map,← hke];exact hI
end Go.Proofs.YtjehnjhkcmobcaaGreat
/- Sets combined. -/
namespace Go.Proofs.YtjehnjhkcmobcaaGreat
open Go.Eng Go.Step
set_option maxRecDepth 100000
set_option maxHeartbeats 4000000

theorem points_spec (v u:Value) (hv:v.oneCell' = true) (hu:u.oneCell' = true) :
  Eng.Spec Tryz.prog (fv 176) [v,u] [] [] (fun r H'=>∃ b1 b2,r = .func (.func 206) #[] #[.pointer (some ⟨b1,0,none⟩),.pointer (some ⟨b2,0,none⟩)] ∧ H' = [sng b2 (.cells #[u] 148 (0,0)),sng b1 (.cells #[v] 148 (0,0))]):=by
 refine spec_in (cap:=[]) Tryz.func176 rfl rfl Tryz.ntmps176 rfl envZ (fun N β=>?_)
 refine Aa ?_;refine BH (DC rfl hv) rfl rfl rfl ?_;rintro _ _ ⟨b1,rfl,rfl⟩;refine BH (DC rfl hu) rfl rfl rfl ?_;rintro _ _ ⟨b2,rfl,rfl⟩;refine Aaa ?_;refine Aa ?_;refine CA ?_;refine Aaa ?_;exact AI (res1 rfl rfl) rsubZ selZ ⟨b1,b2,rfl,rfl⟩
set_option maxHeartbeats 32000000 in
theorem ivCombine_spec (ρ τ:PH) (va vb:Value) (gf:FuncId) (a b:Iv) (f:Bool → Bool → Bool) (ha:SpAt ρ va a) (hb:SpAt τ vb b) (h0a:chkI a = 0) (h0b:chkI b = 0) (hlen:a.length + b.length ≤ 1000) (hf:f false false = false)
  (hfn:∀ x y,Ans Tryz.prog (.func (.func gf) #[] #[]) [.bool x,.bool y] [] (fun r=>r = .bool (f x y))) :
  Makes Tryz.prog (fv 128) [va,vb,.func (.func gf) #[] #[]] [ρ,τ] (fun r σ=>∃ u,r = .tuple #[u,int 0] ∧ OwnS 152 2 u (combI f a b).length ((combI f a b).flatMap encS) σ):=by
 have hca:=ivCheck_spec ρ va a ha (by omega)
 have hcb:=ivCheck_spec τ vb b hb (by omega)
 rw [h0a] at hca;rw [h0b] at hcb
 have hpts:=fun b1 b2=>points_iter ρ τ va vb a b b1 b2 ha hb (by omega) (by omega)
 have hcl:=(combI_ok hf (chkI_norm h0a).2.1 (chkI_norm h0b).2.1).2.2
 have hml:=mrg_len _ (tog a) false (tog b) false (Nat.le_refl _)
 rw [tog_len,tog_len] at hml
 obtain ⟨qa,ca,rfl,_⟩:=ha.val encS_len
 obtain ⟨qb,cb,rfl,_⟩:=hb.val encS_len
 refine spec_in (cap:=[]) Tryz.func128 rfl rfl Tryz.ntmps128 rfl envZ (fun N β=>?_)
 refine BY ?_;refine Aa ?_;refine EL ?_; rintro _ _ ⟨b,rfl,rfl⟩;refine Aan ?_;refine Aai ?_
 revert b; intro b5
 refine AT (ρ:=sng b5 _) takeZ ?_
 have g5:rdc (sng b5 (.cells #[.func (.func gf) #[] #[]] 218 (0,0))) b5 0 = some (.func (.func gf) #[] #[]):=by rw [rdc_sng]; rfl
 refine A3 hca rfl rfl rdZ rfl rfl ?_;rintro _ rfl;refine BG ?_;refine Aa1 ?_;refine A3 hcb rfl rfl rdZ rfl rfl ?_;rintro _ rfl;refine BG ?_;refine Abh ?_;refine Aa ?_;refine B6 ?_; rintro _ _ ⟨b,rfl,rfl⟩;refine AE ?_;refine Aa ?_;refine B6 ?_; rintro _ _ ⟨b,rfl,rfl⟩;refine BF ?_; rintro _ _ ⟨rfl,rfl⟩;refine AE ?_;refine Ad ?_
 revert b; intro b9
 revert b; intro b8
 refine BC (points_spec (.slice qa a.length ca) (.slice qb b.length cb) rfl rfl) rfl rfl Takes.nil (fun τ hτ=>by simp at hτ) rfl rfl ?_
 rintro _ _ ⟨b1,b2,rfl,rfl⟩;refine AT (ρ:=sng b1 _) takeZ ?_;refine AT (ρ:=sng b2 _) takeZ ?_;refine AE ?_;refine AO ?_
 refine DB (gf:=206) (cap:=[.pointer (some ⟨b1,0,none⟩),.pointer (some ⟨b2,0,none⟩)]) (ps:=[24,25]) (X:=Value × Bool × PH) rfl Tryz.func206 rfl rfl
  (hpts b1 b2) ?_
  (fun i x=>x.2.1 = oddB (mcomb f ((mrg (tog a) false (tog b) false).take i) []).length ∧ OwnS 152 2 x.1 (spans (mcomb f ((mrg (tog a) false (tog b) false).take i) [])).length ((spans (mcomb f ((mrg (tog a) false (tog b) false).take i) [])).flatMap encS) x.2.2)
  (fun x=>[sng b8 (.cells #[x.1] 148 (0,0)),sng b9 (.cells #[.bool x.2.1] 4 (0,0)),x.2.2]) (fun _ _=>False) (.slice none 0 0,false,emp) rfl takesZ ⟨rfl,OwnS.nil _ _⟩ ?_ ?_ ?_
 ·intro σ' hσ
  simp only [List.mem_cons,List.not_mem_nil,or_false] at hσ ⊢
  rcases hσ with h | h | h | h <;> simp [h]
 ·rintro lo r i ⟨u,ins,σ⟩ vs hvs ⟨hins,hO⟩ hps has hbd hst hpe hfr
  obtain ⟨st,pe,fnn,tm,prm,asg,bdy,df⟩:=r
  simp only at hps has hbd hst hpe hfr;subst hps has hbd hst hpe;rw [List.getElem?_map] at hvs
  obtain ⟨⟨t,x,y⟩,hc,rfl⟩:=Option.map_eq_some_iff.1 hvs
  have hnx:=mcomb_next f hc []
  have hOl:=mcomb_len f ((mrg (tog a) false (tog b) false).take i) []
  have hti:((mrg (tog a) false (tog b) false).take i).length ≤ (mrg (tog a) false (tog b) false).length:=by rw [List.length_take]; omega
  dsimp only at hins hO
  have hsl:=spans_len (mcomb f ((mrg (tog a) false (tog b) false).take i) [])
  simp only [hnx]
  generalize mcomb f ((mrg (tog a) false (tog b) false).take i) [] = O at hins hO hOl hsl
  simp only [List.length_nil] at hOl
  have hone:∀ z n (xs:List Value) (χ:PH),OwnS 152 2 z n xs χ → z.oneCell' = true:=fun z n xs χ h=>by obtain ⟨_,_,rfl⟩:=h.form; rfl
  have hu1:=hone _ _ _ _ hO
  have hfxy:=hfn x y
  have hm1:mcomb1 f O (t,x,y) = if f x y = oddB O.length then O else O ++ [t]:=rfl
  refine yield_spec hfr rfl (by intro p hp; simp at hp; omega) putiZ (fun N' β'=>?_)
  dsimp only
  refine Aak ?_;refine AA ?_;refine AY ?_; rintro _ _ ⟨b,rfl,rfl⟩;refine AU ?_; rintro _ _ ⟨rfl,rfl⟩;refine Aev ?_;refine C7 takeZ rfl ?_
  revert b; intro bx
  refine AO ?_;refine Abk ?_
  focus ((refine CH (G8 rfl rfl rfl rfl (by decide)) rfl rfl rfl ?_))
  refine AF ?_
  focus ((refine CH (G9 rfl rfl rfl rfl (by decide)) rfl rfl rfl ?_))
  refine AF ?_;refine A3 hfxy rfl rfl rdZ rfl rfl ?_;rintro _ rfl
  cases hfv:f x y with
  | true =>
   cases ins with
   | true =>
    rw [hfv,← hins,if_pos rfl] at hm1;refine Aaa ?_;refine Aau ?_;refine Abn ?_;refine AF ?_;refine BE ?_;refine Ab2 ?_;refine AL rfl ?_;refine Aad ?_;refine BE ?_;refine AB ?_;refine AH rfl rfl rfl ?_;refine Ab4 ?_;refine Aae ?_;refine Aca ?_;refine BF ?_; rintro _ _ ⟨rfl,rfl⟩;refine Aer ?_
    exact B4 takeZ rsubZ selZ ⟨(u,true,σ),.inl ⟨rfl,⟨by rw [hm1]; exact hins,by rw [hm1]; exact hO⟩,rfl⟩⟩
   | false =>
    rw [hfv,← hins,if_neg (by simp)] at hm1
    have hsp:=spans_even t hins.symm
    refine Aaa ?_;refine Aau ?_;refine Abn ?_;refine AF ?_;refine BE ?_;refine Ab2 ?_;refine AM rfl ?_;refine AA ?_;refine Ach ?_;refine BR ?_;refine BD ?_; rintro _ _ ⟨b,rfl,rfl⟩
    refine BH (B8 (by_:=16) (s:=2) (news:=[int t,int 0]) rfl rfl rfl rfl rfl rfl rfl hO takeZ (cells_own memZ) rfl (by (repeat (first | exact (fun v hv=>absurd hv List.not_mem_nil) | (refine List.forall_mem_cons.2 ⟨?_,?_⟩; (focus (first | exact rfl | assumption))))); first | done | fail) (by omega) (by simp only [maxLen]; omega) (by omega)) rfl rfl rfl ?_
    rintro u1 _ ⟨σ1,hO1,rfl⟩
    have hu2:=hone _ _ _ _ hO1
    refine BF ?_; rintro _ _ ⟨rfl,rfl⟩;refine AE ?_;refine Aca ?_;refine BF ?_; rintro _ _ ⟨rfl,rfl⟩;refine Aer ?_;refine B4 takeZ rsubZ selZ ⟨(u1,true,σ1),.inl ⟨rfl,⟨?_,?_⟩,rfl⟩⟩
    ·dsimp only
     rw [hm1,List.length_append,List.length_singleton,oddB_succ,← hins]; rfl
    ·dsimp only
     rw [hm1,hsp,List.length_append,List.flatMap_append];exact hO1
  | false =>
   cases ins with
   | false =>
    rw [hfv,← hins,if_pos rfl] at hm1;refine Aaa ?_;refine Aau ?_;refine Aad ?_;refine Aay ?_;refine Ab4 ?_;refine AL rfl ?_;refine Aad ?_;refine BE ?_;refine AB ?_;refine AF ?_;refine Ab2 ?_;refine Aae ?_;refine Aca ?_;refine BF ?_; rintro _ _ ⟨rfl,rfl⟩;refine Aer ?_
    exact B4 takeZ rsubZ selZ ⟨(u,false,σ),.inl ⟨rfl,⟨by rw [hm1]; exact hins,by rw [hm1]; exact hO⟩,rfl⟩⟩
   | true =>
    rw [hfv,← hins,if_neg (by simp)] at hm1
    obtain ⟨l,c,e1,e2⟩:=spans_odd t hins.symm
    rw [e1] at hO hsl
    have hll:(l ++ [(c,(0:Int))]).length = l.length + 1:=by simp
    obtain ⟨bu,cu,rfl⟩:=hO.formP (by omega)
    have hget:(l ++ [(c,(0:Int))])[(l ++ [(c,(0:Int))]).length - 1]? = some (c,0):=by simp
    refine Aaa ?_;refine Aau ?_;refine Aad ?_;refine Aay ?_;refine Ab4 ?_;refine AL rfl ?_;refine Aad ?_;refine BE ?_;refine AB ?_;refine AF ?_;refine Ab2 ?_;refine AM rfl ?_;refine AA ?_;refine AF ?_;refine AF ?_;refine AV ?_;refine DH ?_;refine AB ?_;refine A9 ?_;refine DN ?_
    refine B5 (EJ encS_len (s:=2) ((l ++ [(c,(0:Int))]).length - 1) 1 (c,t) hO rfl (by simp; rfl) (by decide) hget rfl rfl rfl rfl takeZ) rfl rfl ?_
    rintro _ _ ⟨rfl,σ1,hO1,rfl⟩;refine AE ?_;refine Aca ?_;refine BF ?_; rintro _ _ ⟨rfl,rfl⟩;refine Aer ?_;refine B4 takeZ rsubZ selZ ⟨(.slice (some ⟨bu,0,none⟩) (l ++ [(c,(0:Int))]).length cu,false,σ1),.inl ⟨rfl,⟨?_,?_⟩,rfl⟩⟩
    ·dsimp only
     rw [hm1,List.length_append,List.length_singleton,oddB_succ,← hins]; rfl
    ·dsimp only
     rw [hm1,e2]
     have es:(l ++ [(c,(0:Int))]).set ((l ++ [(c,(0:Int))]).length - 1) (c,t) = l ++ [(c,t)]:=by simp
     rw [es] at hO1
     simpa using hO1
 ·rintro b2' ⟨u,ins,σ⟩ ⟨hins,hO⟩
  rw [List.length_map,List.take_length] at hins hO
  dsimp only at hins hO
  have hO2:OwnS 152 2 u (combI f a b).length ((combI f a b).flatMap encS) σ:=hO
  obtain ⟨p,c,rfl⟩:=hO2.form
  clear hO
  generalize combI f a b = out at hO2 hcl
  refine A2 ?_;refine AC ?_;refine Abk ?_;refine Ad7 ?_;refine Aaj ?_;refine Abk ?_;refine Aan ?_;exact EG (Marks.cons .here .nil) (res2 rfl rfl rfl) rsubZ selZ ⟨σ,⟨_,rfl,hO2⟩,rfl⟩
 ·rintro _ _ _ h; exact h.elim
end Go.Proofs.YtjehnjhkcmobcaaGreat
/- Cuts of sets of vertices. -/
namespace Go.Proofs.YtjehnjhkcmobcaaGreat
open Go.Eng Go.Step
set_option maxRecDepth 100000
set_option maxHeartbeats 4000000

def rowsQ (L:List Sq):List Value:=L.map (fun x=>.slice x.1.1 x.2.length x.1.2)
theorem rowsQ_flat:∀ L:List Sq,L.flatMap encQ = rowsQ L
 | []=>rfl
 | x :: L=>by
  rw [List.flatMap_cons,rowsQ_flat L]
  rfl
theorem rowsQ_len (L:List Sq):(rowsQ L).length = L.length:=List.length_map _
theorem rowsQ_set (L:List Sq) (k:Nat) (z:Sq):(rowsQ L).toArray.setIfInBounds k (.slice z.1.1 z.2.length z.1.2) = (rowsQ (L.set k z)).toArray:=by
 apply Array.toList_inj.1
 rw [Array.toList_setIfInBounds];unfold rowsQ;rw [List.map_set]
theorem rowsQ_rep (n:Nat):List.replicate n (Value.slice none 0 0) = rowsQ (List.replicate n ((none,0),[])):=by
 unfold rowsQ;rw [List.map_replicate]
 rfl
theorem exOr_spec (x y:Bool):Ans Tryz.prog (fv 129) [.bool x,.bool y] [] (fun r=>r = .bool (x || y)):=by
 refine spec_in (cap:=[]) Tryz.func129 rfl rfl Tryz.ntmps129 rfl envZ (fun N β=>?_)
 cases x <;> cases y
 all_goals
  repeat' (first
   | (refine AB ?_)
   | (refine AD ?_)
   | (refine AN ?_)
   | (refine AJ ?_)
   | (refine AC ?_)
   | (refine AA ?_)
   | (refine AE ?_)
   | (refine AH rfl rfl rfl ?_)
   | fail)
  exact AI (res1 rfl rfl) rsubZ selZ ⟨rfl,rfl⟩
theorem exUnion_spec (ρ τ:PH) (va vb:Value) (a b:Iv) (ha:SpAt ρ va a) (hb:SpAt τ vb b) (h0a:chkI a = 0) (h0b:chkI b = 0) (hlen:a.length + b.length ≤ 1000) :
  Makes Tryz.prog (fv 70) [va,vb] [ρ,τ] (fun r σ=>∃ u,r = .tuple #[u,int 0] ∧ OwnS 152 2 u (combI (fun x y=>x || y) a b).length ((combI (fun x y=>x || y) a b).flatMap encS) σ):=by
 have h:=ivCombine_spec ρ τ va vb 129 a b (fun x y=>x || y) ha hb h0a h0b hlen rfl exOr_spec
 obtain ⟨qa,ca,rfl,_⟩:=ha.val encS_len
 obtain ⟨qb,cb,rfl,_⟩:=hb.val encS_len
 refine spec_in (cap:=[]) Tryz.func70 rfl rfl Tryz.ntmps70 rfl envZ (fun N β=>?_)
 refine Acj ?_;refine Abn ?_;refine CB h rfl rfl rdZ rfl rfl ?_;rintro _ σ ⟨u,rfl,hO⟩;refine Aa6 ?_;refine Aan ?_;exact AI (res2 rfl rfl rfl) rsubZ selZ ⟨σ,⟨u,rfl,hO⟩,rfl⟩
set_option maxHeartbeats 32000000 in
theorem Sides_spec {ρ τ σ υ:PH} {pq pc pb ph:Option Addr} {kq kc kb kh:Nat} {qs:List Int} {cs:List Ct} {bs:List Bk} {hs:List Hd} (hT:TbAt ρ τ σ υ pq pc pb ph kq kc kb kh qs cs bs hs) (d:Dm) (ω:PH) (u0:Value) (side:List Int) (hu:IntsAt ω u0 side) (hsl:side.length ≤ 1000000) :
  Eng.Spec Tryz.prog (fv 30) [.agg #[.slice pq qs.length kq,.slice pc cs.length kc,.slice pb bs.length kb,.slice ph hs.length kh],.agg #[int d.s,int d.d,int d.v,int d.r,int d.e],u0] [ρ,τ,σ,υ,ω] [] (fun r H'=>∃ (L:List Sq) (u:Value) (σ' χ':PH),r = .tuple #[u,int (sidesE qs cs bs hs d side)] ∧ H' = [σ',χ'] ∧ cuL L = (if sidesE qs cs bs hs d side = 0 then sidesC d qs.length side else []) ∧ CutL σ' χ' u L):=by
 obtain ⟨pf,kf,rfl,hrf⟩:=hu.val Eng.encI_len
 have hnil:CutL emp emp (.slice none 0 0) []:=⟨⟨rfl,.inl ⟨rfl,none,0,rfl⟩⟩,by simp⟩
 refine spec_in (cap:=[]) Tryz.func30 rfl rfl Tryz.ntmps30 rfl envZ (fun N β=>?_)
 refine Aa ?_;refine BH (BM rfl) rfl rfl rfl ?_;rintro _ _ ⟨b1,rfl,rfl⟩;refine AT (ρ:=sng b1 _) takeZ ?_
 have ct:=rdB b1 29 [.slice pq qs.length kq,.slice pc cs.length kc,.slice pb bs.length kb,.slice ph hs.length kh]
 have ct0:=rdC ct 0
 have ct1:=rdC ct 1
 have ct2:=rdC ct 2
 have ct3:=rdC ct 3
 have ctp:RdP (sng b1 (.cells #[.slice pq qs.length kq,.slice pc cs.length kc,.slice pb bs.length kb,.slice ph hs.length kh] 29 (0,0))) b1 0 [.slice pq qs.length kq,.slice pc cs.length kc]:=rdP_sng (xs:=[.slice pq qs.length kq,.slice pc cs.length kc,.slice pb bs.length kb,.slice ph hs.length kh]) rfl
 refine BH (BM rfl) rfl rfl rfl ?_;rintro _ _ ⟨b2,rfl,rfl⟩;refine AT (ρ:=sng b2 _) takeZ ?_
 have cd:=rdB b2 31 [int d.s,int d.d,int d.v,int d.r,int d.e]
 have cd0:=rdC cd 0
 have cd1:=rdC cd 1
 have cd2:=rdC cd 2
 have cd3:=rdC cd 3
 have cd4:=rdC cd 4
 refine BY ?_;refine BY ?_;refine Aan ?_;refine Ace ?_;refine BC (build_spec hT d) rfl rfl Takes.nil rdZ rfl rfl ?_;rintro _ H' (⟨hv,rfl,rfl⟩ | ⟨hv,bw,bm,pl0,χ,M,rfl,rfl,hO,hM⟩)
 ·have hE:sidesE qs cs bs hs d side = 1:=by unfold sidesE; rw [if_neg (by simp [hv])]
  rw [hE];refine Acc ?_;refine Ad1 ?_;refine Acj ?_;exact AI (res2 rfl rfl rfl) rsubZ selZ ⟨[],_,emp,emp,rfl,rfl,rfl,hnil⟩
 have hEv:sidesE qs cs bs hs d side = (Go.Flow.capacitySpec (vsN qs d) (arcsG qs cs bs hs d) side).2:=by unfold sidesE; rw [if_pos hv]
 have h:=vok hv
 have h0:=vokB hv
 have hdm:=h.dm
 unfold okDm at hdm
 have hnq:=h.nq
 obtain ⟨pl,kp,rfl⟩:=hO.form
 have hpl:SlE encS 2 χ (.slice pl (placesA d qs.length).length kp) (placesA d qs.length):=hO.at
 refine AT (ρ:=sng bw _) takeZ ?_;refine AT (ρ:=sng bm _) takeZ ?_;refine AT (ρ:=χ) takeZ ?_
 have w0:rdc (sng bw (.cells #[.slice pq qs.length kq,.slice pc cs.length kc,.slice pb bs.length kb,.slice ph hs.length kh,int d.s,int d.d,int d.v,int d.r,int d.e,.slice pl (placesA d qs.length).length kp,.map (some bm)] 147 (0,0))) bw 0 = some (.slice pq qs.length kq):=by rw [rdc_sng]; rfl
 have w1:rdc (sng bw (.cells #[.slice pq qs.length kq,.slice pc cs.length kc,.slice pb bs.length kb,.slice ph hs.length kh,int d.s,int d.d,int d.v,int d.r,int d.e,.slice pl (placesA d qs.length).length kp,.map (some bm)] 147 (0,0))) bw 1 = some (.slice pc cs.length kc):=by rw [rdc_sng]; rfl
 have w2:rdc (sng bw (.cells #[.slice pq qs.length kq,.slice pc cs.length kc,.slice pb bs.length kb,.slice ph hs.length kh,int d.s,int d.d,int d.v,int d.r,int d.e,.slice pl (placesA d qs.length).length kp,.map (some bm)] 147 (0,0))) bw 2 = some (.slice pb bs.length kb):=by rw [rdc_sng]; rfl
 have w3:rdc (sng bw (.cells #[.slice pq qs.length kq,.slice pc cs.length kc,.slice pb bs.length kb,.slice ph hs.length kh,int d.s,int d.d,int d.v,int d.r,int d.e,.slice pl (placesA d qs.length).length kp,.map (some bm)] 147 (0,0))) bw 3 = some (.slice ph hs.length kh):=by rw [rdc_sng]; rfl
 have w4:rdc (sng bw (.cells #[.slice pq qs.length kq,.slice pc cs.length kc,.slice pb bs.length kb,.slice ph hs.length kh,int d.s,int d.d,int d.v,int d.r,int d.e,.slice pl (placesA d qs.length).length kp,.map (some bm)] 147 (0,0))) bw 4 = some (int d.s):=by rw [rdc_sng]; rfl
 have w5:rdc (sng bw (.cells #[.slice pq qs.length kq,.slice pc cs.length kc,.slice pb bs.length kb,.slice ph hs.length kh,int d.s,int d.d,int d.v,int d.r,int d.e,.slice pl (placesA d qs.length).length kp,.map (some bm)] 147 (0,0))) bw 5 = some (int d.d):=by rw [rdc_sng]; rfl
 have w6:rdc (sng bw (.cells #[.slice pq qs.length kq,.slice pc cs.length kc,.slice pb bs.length kb,.slice ph hs.length kh,int d.s,int d.d,int d.v,int d.r,int d.e,.slice pl (placesA d qs.length).length kp,.map (some bm)] 147 (0,0))) bw 6 = some (int d.v):=by rw [rdc_sng]; rfl
 have w7:rdc (sng bw (.cells #[.slice pq qs.length kq,.slice pc cs.length kc,.slice pb bs.length kb,.slice ph hs.length kh,int d.s,int d.d,int d.v,int d.r,int d.e,.slice pl (placesA d qs.length).length kp,.map (some bm)] 147 (0,0))) bw 7 = some (int d.r):=by rw [rdc_sng]; rfl
 have w8:rdc (sng bw (.cells #[.slice pq qs.length kq,.slice pc cs.length kc,.slice pb bs.length kb,.slice ph hs.length kh,int d.s,int d.d,int d.v,int d.r,int d.e,.slice pl (placesA d qs.length).length kp,.map (some bm)] 147 (0,0))) bw 8 = some (int d.e):=by rw [rdc_sng]; rfl
 have w9:rdc (sng bw (.cells #[.slice pq qs.length kq,.slice pc cs.length kc,.slice pb bs.length kb,.slice ph hs.length kh,int d.s,int d.d,int d.v,int d.r,int d.e,.slice pl (placesA d qs.length).length kp,.map (some bm)] 147 (0,0))) bw 9 = some (.slice pl (placesA d qs.length).length kp):=by rw [rdc_sng]; rfl
 have w10:rdc (sng bw (.cells #[.slice pq qs.length kq,.slice pc cs.length kc,.slice pb bs.length kb,.slice ph hs.length kh,int d.s,int d.d,int d.v,int d.r,int d.e,.slice pl (placesA d qs.length).length kp,.map (some bm)] 147 (0,0))) bw 10 = some (.map (some bm)):=by rw [rdc_sng]; rfl
 have hg:=graph_spec hT bw bm kp pl χ M d h h0 hpl hM
 have hEl:=ea_len qs cs bs hs d h
 have hAl:(arcsG qs cs bs hs d).length = (arcsE qs cs bs hs d).length:=by unfold arcsG; rw [List.length_map]
 refine Acc ?_;refine Acb ?_;refine Aad ?_;refine CB hg rfl rfl rdZ rfl rfl ?_;rintro _ σg ⟨ug,rfl,hOg⟩
 have hAt:ArcsAt σg ug (arcsG qs cs bs hs d):=hOg.at
 obtain ⟨pg,kg,rfl⟩:=hOg.form
 refine AT (ρ:=σg) takeZ ?_;refine AY ?_; rintro _ _ ⟨b,rfl,rfl⟩;refine AU ?_; rintro _ _ ⟨rfl,rfl⟩;refine Acg ?_;refine Aac ?_;refine AB ?_
 revert b; intro bg
 refine AT (ρ:=sng bg _) takeZ ?_
 have gg0:rdc (sng bg (.cells #[int (vsN qs d),.slice pg (arcsG qs cs bs hs d).length kg,int (vtx d d.s d.r),int (vtx d d.d d.e)] 75 (0,0))) bg 0 = some (int (vsN qs d)):=by rw [rdc_sng]; rfl
 have gg1:rdc (sng bg (.cells #[int (vsN qs d),.slice pg (arcsG qs cs bs hs d).length kg,int (vtx d d.s d.r),int (vtx d d.d d.e)] 75 (0,0))) bg 1 = some (.slice pg (arcsG qs cs bs hs d).length kg):=by rw [rdc_sng]; rfl
 have gg2:rdc (sng bg (.cells #[int (vsN qs d),.slice pg (arcsG qs cs bs hs d).length kg,int (vtx d d.s d.r),int (vtx d d.d d.e)] 75 (0,0))) bg 2 = some (int (vtx d d.s d.r)):=by rw [rdc_sng]; rfl
 have gg3:rdc (sng bg (.cells #[int (vsN qs d),.slice pg (arcsG qs cs bs hs d).length kg,int (vtx d d.s d.r),int (vtx d d.d d.e)] 75 (0,0))) bg 3 = some (int (vtx d d.d d.e)):=by rw [rdc_sng]; rfl
 have hcap:=flowCapacity_spec σg ω _ _ (vsN qs d) (arcsG qs cs bs hs d) side hAt hu (by omega) (by omega)
 skip
 refine A3 hcap rfl rfl rdZ rfl rfl ?_;rintro _ rfl;rw [← hEv]
 generalize (Go.Flow.capacitySpec (vsN qs d) (arcsG qs cs bs hs d) side).1 = vv
 by_cases hz:sidesE qs cs bs hs d side = 0
 rotate_left
 ·rw [if_neg hz]
  refine Ac7 ?_;refine Ab9 ?_;refine Adf ?_;exact AI (res2 rfl rfl rfl) rsubZ selZ ⟨[],_,emp,emp,rfl,rfl,rfl,hnil⟩
 have hin:=sidesE_in hv hz
 rw [hz,if_pos rfl]
 have hplen:(((placesA d qs.length).length:Nat):Int) = vsN qs d:=placesA_len (d:=d) (by omega) qs.length
 obtain ⟨_,_,ep,hrp⟩:=SlE.val (enc:=encS) encS_len hpl
 simp only [Value.slice.injEq] at ep
 obtain ⟨rfl,_,rfl⟩:=ep
 refine Ac7 ?_;refine Abb ?_;refine Aci ?_;refine Ac ?_;refine GD ?_; rintro _ _ ⟨b,rfl,rfl⟩;refine Ad5 ?_
 revert b; intro B
 rw [rowsQ_rep]
 refine BA [3,8,13,44,45] (X:=Nat × List Sq × PH) (0,List.replicate qs.length ((none,0),[]),emp) (fun x=>x.1 ≤ side.length ∧ cuL x.2.1 = sidesC d qs.length (side.take x.1) ∧ ∀ z ∈ x.2.1,SpAt x.2.2 (.slice z.1.1 z.2.length z.1.2) z.2 ∧ z.2.length ≤ 1000) (fun x=>[(46,int x.1)]) (fun x=>[sng B (.cells (rowsQ x.2.1).toArray 148 (0,0)),x.2.2]) (fun x=>side.length - x.1) pickZ ⟨by dsimp only; omega,?_,fun z hz=>?_⟩ covZ selZ ?_
 ·dsimp only
  rw [List.take_zero,sidesC_nil];exact List.map_replicate
 ·obtain ⟨_,rfl⟩:=List.mem_replicate.1 hz
  exact ⟨⟨rfl,.inl ⟨rfl,_,_,rfl⟩⟩,by simp⟩
 rintro ⟨k,L,κ⟩ ⟨hk,hL,hS⟩
 dsimp only at hk hL hS ⊢
 have hLl:L.length = qs.length:=by
  have:=congrArg List.length hL
  rwa [List.length_map,sidesC_len] at this
 by_cases hlt:k < side.length
 rotate_left
 ·have hke:k = side.length:=by omega
  subst hke;rw [List.take_length] at hL;refine Abl ?_;refine Adf ?_
  refine AI (res2 rfl rfl rfl) rsubZ selZ ⟨L,.slice (some ⟨B,0,none⟩) qs.length qs.length,_,κ,rfl,rfl,hL,?_,fun z hz=>⟨(hS z hz).1,by have:=(hS z hz).2; omega⟩⟩
  have:=slE_sng (enc:=encQ) encQ_len (b:=B) (l:=L) (t:=148) (fr:=(0,0)) (c:=qs.length)
  unfold elems at this;rw [rowsQ_flat,hLl] at this;exact this
 have hx:=List.getElem?_eq_getElem hlt
 have hvi:=hin _ (List.getElem_mem hlt)
 obtain ⟨n,t,hn,ht1,ht2,hkv,hkn⟩:=place_of (d:=d) (by omega) (k:=side[k].toNat) (N:=qs.length) (by rw [Int.toNat_of_nonneg hvi.1]; exact hvi.2)
 rw [Int.toNat_of_nonneg hvi.1] at hkv
 have hp:=placesA_get (d:=d) (by omega) ht1 ht2 hn
 rw [← hkv] at hp
 have hdv:=vtx_div (d:=d) (n:=n) (t:=t) ht1 ht2
 have hdm2:=vtx_mod (d:=d) (n:=n) (t:=t) ht1 ht2
 rw [← hkv] at hdv hdm2
 have hnx:=sidesC_next d qs.length hlt hdv
 rw [hdm2,show d.r + (t - d.r) = t by omega,← sideI_one (sideI_ok d (side.take k) n).1] at hnx
 obtain ⟨b6,o6,epl,hRd6,y0,y1⟩:=spRow hrp hp
 obtain ⟨bo,oo,epf,gf⟩:=hrf.int hx
 have hLn:=List.getElem?_eq_getElem (show n < L.length by omega)
 have hSn:=hS _ (List.getElem_mem (show n < L.length by omega))
 have hLe:L[n].2 = sideI d (side.take k) n:=by
  have e1:(cuL L)[n]? = some L[n].2:=by rw [List.getElem?_map,hLn]; rfl
  rw [hL] at e1;unfold sidesC at e1;rw [List.getElem?_map,List.getElem?_range hn] at e1;exact (Option.some.inj e1).symm
 have hnorm:=(sideI_ok d (side.take k) n).1
 have hslen:=sideI_small h (side.take k) n
 have hchk:=sideI_chk h (side.take k) n
 rw [← hLe] at hnorm hslen hchk hnx
 have gB:rdc (sng B (.cells (rowsQ L).toArray 148 (0,0))) B n = some (.slice L[n].1.1 L[n].2.length L[n].1.2):=by
  rw [rdc_sng]
  simp [rowsQ,hLn]
 generalize hzz:L[n] = z at hLn hSn hLe hnorm hslen hchk hnx gB
 obtain ⟨⟨pz,kz⟩,lz⟩:=z
 dsimp only at hSn hLe hnorm hslen hchk hnx gB
 have hc1:chkI [(t,t + 1)] = 0:=chkI_of (by simp) (NormI.nil.cons (by dsimp only; omega) (by simp)) (fun x hx=>by
  obtain rfl:=List.mem_singleton.1 hx
  unfold okSp
  dsimp only
  omega)
 have hun:=fun b8=>exUnion_spec κ (sng b8 (.cells #[int t,int (t + 1)] 152 (0,0))) (.slice pz lz.length kz) (.slice (some ⟨b8,0,none⟩) 1 1) lz [(t,t + 1)] hSn.1 (slE_sng encS_len) hchk hc1 (by simp only [List.length_singleton]; omega)
 have hcl:=(combI_ok (f:=fun x y=>x || y) rfl hnorm (b:=[(t,t + 1)]) (NormI.nil.cons (by dsimp only; omega) (by simp))).2.2
 simp only [List.length_singleton] at hcl
 obtain ⟨v,hvv⟩:=Int.eq_ofNat_of_zero_le hvi.1
 rw [hvv] at gf y0 y1 hRd6;rw [Int.toNat_natCast] at y0 y1 hRd6
 have hvl:(v:Int) < (((placesA d qs.length).length:Nat):Int):=by omega
 subst epl;subst epf;refine Aew ?_;refine Aet ?_;refine AB ?_;refine Abc ?_;refine AY ?_; rintro _ _ ⟨b,rfl,rfl⟩;refine AU ?_; rintro _ _ ⟨rfl,rfl⟩;refine AE ?_
 revert b; intro b16
 refine A8 (.q 0 (.q 1 (.q 2 (.q 3 (.q 4 (.q 5 (.q 6 (.q 7 (.q 8 (.q 9 (.q 10 (.q 11 (.q 12 (.q 13 (.l 14 .e (.l 15 .e (.q 16 (.q 17 (.p 18 (.q 19 (.l 20 .b .nil))))))))))))))))))))) [] rfl (by kernel_rfl) Sel.nil ?_
 refine Acx ?_;refine Acx ?_;refine Ad9 ?_;refine Acn ?_;refine DK ?_;refine C4 ?_;refine BK ?_; rintro _ _ ⟨b,rfl,rfl⟩
 revert b; intro b8
 refine B7 (BJ rfl (hun b8) rfl rfl rdZ rfl rfl ?_);rintro _ _ ⟨σi,⟨ui,rfl,hOi⟩,rfl⟩
 obtain ⟨pi,ci,rfl⟩:=hOi.form
 refine AQ ?_;refine DA ?_;refine FL ?_;refine CP ?_;refine B7 ?_;refine' DI rfl _ rfl rfl _ _; rotate_left
 ·(apply DL; exact rfl; exact rfl; exact rfl; exact rfl; exact takeZ; (simp [rowsQ_len]; omega))
 ·rintro _ _ ⟨_,rfl⟩ w hw; exact hw.sel Sel.nil
 rintro _ _ ⟨rfl,rfl⟩;refine A5 ?_;refine Aa0 ?_
 show JK _ _ _ (sng B (.cells ((rowsQ L).toArray.setIfInBounds n (Value.slice pi (combI (fun x y=>x || y) lz [(t,t + 1)]).length ci)) 148 (0,0)) :: _) _ _
 have hset:=rowsQ_set L n ((pi,ci),combI (fun x y=>x || y) lz [(t,t + 1)])
 dsimp only at hset
 rw [hset]
 refine DE (ρ:=σi) (σ:=κ) takeZ takeZ (fun χ1 s1 s2=>?_)
 refine AX (k + 1,L.set n ((pi,ci),combI (fun x y=>x || y) lz [(t,t + 1)]),χ1) ⟨by dsimp only; omega,?_,fun z hz=>?_⟩ (by dsimp only; omega) covZ selZ
 ·dsimp only
  rw [hnx,← hL];exact List.map_set
 ·rcases List.mem_or_eq_of_mem_set hz with hz | rfl
  ·exact ⟨(hS z hz).1.mono s2,(hS z hz).2⟩
  ·exact ⟨SlE.mono (show SpAt σi _ _ from hOi.at) s1,by dsimp only; omega⟩
end Go.Proofs.YtjehnjhkcmobcaaGreat
/- Sizes, demands, equal cuts. -/
namespace Go.Proofs.YtjehnjhkcmobcaaGreat
open Go.Eng Go.Step
set_option maxRecDepth 100000
set_option maxHeartbeats 4000000

set_option maxHeartbeats 16000000 in
theorem exSame_spec (ρ τ:PH) (v w:Value) (l:Iv) (hv:SpAt ρ v l) (hw:SpAt τ w l) (hl:l.length ≤ 9223372036854775807) :
  Ans Tryz.prog (fv 120) [v,w] [ρ,τ] (fun r=>r = .bool true):=by
 obtain ⟨q,c,rfl,hr⟩:=hv.val encS_len
 obtain ⟨q',c',rfl,hr'⟩:=hw.val encS_len
 refine spec_in (cap:=[]) Tryz.func120 rfl rfl Tryz.ntmps120 rfl envZ (fun N β=>?_)
 refine Aak ?_;refine Aeu ?_;refine Abb ?_;refine AC ?_;refine Ae ?_
 refine BA [0,1] (0:Nat) (fun k=>k ≤ l.length) (fun k=>[(5,int k)]) (fun _=>[]) (fun k=>l.length - k) pickZ (by omega) covZ selZ ?_
 rintro k hk
 by_cases hlt:k < l.length
 ·have hx:=List.getElem?_eq_getElem hlt
  obtain ⟨b1,o1,rfl,hRd1,_⟩:=spRow hr hx
  obtain ⟨b2,o2,rfl,hRd2,_⟩:=spRow hr' hx
  generalize l[k] = x at hRd1 hRd2 hx
  refine Aec ?_;refine AC ?_
  refine A8 (.q 0 (.q 1 (.q 2 (.q 3 (.q 4 (.q 5 (.q 6 (.q 7 (.q 8 .nil))))))))) [] rfl (by kernel_rfl) Sel.nil ?_
  refine Aeg ?_;refine Aeg ?_
  focus ((refine' CR rfl _ rfl rfl rfl rfl _; rotate_left; (apply F9 [x.1,x.2] [x.1,x.2] (n:=2); exact rfl; exact rfl; kernel_rfl; kernel_rfl; kernel_rfl; exact rfl; exact rfl)))
  refine A5 ?_
  rw [show (!decide ([x.1,x.2] = [x.1,x.2])) = false by simp]
  skip
  refine Aae ?_;refine Adc ?_
  exact AX (k + 1) (by omega) (by omega) covZ selZ
 ·refine AC ?_
  refine Abn ?_;refine AV ?_;refine Aef ?_;refine Aak ?_;exact AI (res1 rfl rfl) rsubZ selZ ⟨rfl,rfl⟩

set_option maxHeartbeats 16000000 in
theorem exSameCut_spec (γ κ γ' κ':PH) (p p':Option Addr) (kk kk':Nat) (La Lb:List Sq) (hc:CutL γ κ (.slice p La.length kk) La) (hc':CutL γ' κ' (.slice p' Lb.length kk') Lb) (he:cuL La = cuL Lb) (lla:La.length ≤ 1000000) :
  Ans Tryz.prog (fv 56) [.slice p La.length kk,.slice p' Lb.length kk'] [γ,κ,γ',κ'] (fun r=>r = .bool true):=by
 have hlen:La.length = Lb.length:=by have:=congrArg List.length he; simpa using this
 obtain ⟨_,_,e1,hra⟩:=hc.1.val encQ_len
 obtain ⟨_,_,e2,hrb⟩:=hc'.1.val encQ_len
 simp only [Value.slice.injEq] at e1 e2
 obtain ⟨rfl,_,rfl⟩:=e1
 obtain ⟨rfl,_,rfl⟩:=e2
 refine spec_in (cap:=[]) Tryz.func56 rfl rfl Tryz.ntmps56 rfl envZ (fun N β=>?_)
 refine Aak ?_;refine Aeu ?_;refine Abb ?_;refine AC ?_;refine Ae ?_
 refine BA [0,1] (0:Nat) (fun k=>k ≤ La.length) (fun k=>[(5,int k)]) (fun _=>[]) (fun k=>La.length - k) pickZ (by omega) covZ selZ ?_
 rintro k hk
 by_cases hlt:k < La.length
 rotate_left
 ·refine AC ?_
  refine Abn ?_;refine AV ?_;refine Aef ?_;refine Aak ?_;exact AI (res1 rfl rfl) rsubZ selZ ⟨rfl,rfl⟩
 have hltb:k < Lb.length:=by omega
 have hx:=List.getElem?_eq_getElem hlt
 have hy:=List.getElem?_eq_getElem hltb
 have hexy:La[k].2 = Lb[k].2:=by
  have:=congrArg (fun c:Cu=>c[k]?) he
  simp only [List.getElem?_map,hx,hy,Option.map_some,Option.some.injEq] at this;exact this
 have hma:=List.getElem_mem hlt
 have hmb:=List.getElem_mem hltb
 obtain ⟨b1,o1,rfl,hr1⟩:=hra k _ hx
 obtain ⟨b2,o2,rfl,hr2⟩:=hrb k _ hy
 have g1:rdc γ b1 (o1 + k) = some (.slice La[k].1.1 La[k].2.length La[k].1.2):=by have:=hr1.get0; rwa [Nat.mul_one] at this
 have g2:rdc γ' b2 (o2 + k) = some (.slice Lb[k].1.1 Lb[k].2.length Lb[k].1.2):=by have:=hr2.get0; rwa [Nat.mul_one] at this
 have hs:=exSame_spec κ κ' _ _ La[k].2 (hc.2 _ hma).1 (hexy ▸ (hc'.2 _ hmb).1) (hc.2 _ hma).2
 clear hr1 hr2;rw [hexy] at hs g1
 generalize La[k] = x at hx g1 hs
 generalize Lb[k] = y at hy g2 hs g1
 refine Aec ?_;refine AC ?_
 refine A8 (.q 0 (.q 1 (.q 2 (.q 3 (.q 4 (.q 5 (.q 6 (.q 7 (.l 8 .e (.q 9 .nil)))))))))) [] rfl (by kernel_rfl) Sel.nil ?_
 refine Aa7 ?_;refine C9 ?_;refine AR ?_;refine Aa7 ?_;refine C9 ?_;refine AR ?_;refine B7 (CC rfl hs rfl rfl rdZ rfl rfl ?_);rintro _ rfl;refine CV ?_;refine Ab5 ?_;refine Adc ?_
 exact AX (k + 1) (by omega) (by omega) covZ selZ
theorem greatPlan_spec (pq pc:Option Addr) (kq kc nq nc:Nat):Ans Tryz.prog (fv 159) [.agg #[.slice pq nq kq,.slice pc nc kc]] [] (fun r=>r = .bool (decide (6 < nq ∨ 10 < nc))):=by
 refine spec_in (cap:=[]) Tryz.func159 rfl rfl Tryz.ntmps159 rfl envZ (fun N β=>?_)
 refine Aa ?_;refine BH (BM rfl) rfl rfl rfl ?_;rintro _ _ ⟨b1,rfl,rfl⟩;refine AT (ρ:=sng b1 _) takeZ ?_
 have c:=rdB b1 25 [.slice pq nq kq,.slice pc nc kc]
 have c0:=rdC c 0
 have c1:=rdC c 1
 by_cases h1:6 < nq
 ·rw [decide_eq_true (.inl h1)]
  refine Acr ?_;refine CQ ?_;refine Abg ?_;refine Ab2 ?_;exact AI (res1 rfl rfl) rsubZ selZ ⟨rfl,rfl⟩
 by_cases h2:10 < nc
 ·rw [decide_eq_true (.inr h2)]
  refine Acr ?_;refine B0 ?_;refine Aag ?_;refine AV ?_;refine CQ ?_;refine Ab4 ?_;exact AI (res1 rfl rfl) rsubZ selZ ⟨rfl,rfl⟩
 rw [decide_eq_false (by omega)]
 refine Acr ?_;refine B0 ?_;refine Aag ?_;refine Ad7 ?_;refine Ab4 ?_;exact AI (res1 rfl rfl) rsubZ selZ ⟨rfl,rfl⟩
set_option maxHeartbeats 16000000 in
theorem great29_spec (pq pc pb ph:Option Addr) (kq kc kb kh nq nc nb nh:Nat):Ans Tryz.prog (fv 104) [.agg #[.slice pq nq kq,.slice pc nc kc,.slice pb nb kb,.slice ph nh kh]] [] (fun r=>r = .bool (decide (6 < nq ∨ 10 < nc ∨ 30 < nb ∨ 30 < nh))):=by
 refine spec_in (cap:=[]) Tryz.func104 rfl rfl Tryz.ntmps104 rfl envZ (fun N β=>?_)
 refine Aa ?_;refine BH (BM rfl) rfl rfl rfl ?_;rintro _ _ ⟨b1,rfl,rfl⟩;refine AT (ρ:=sng b1 _) takeZ ?_
 have c:=rdB b1 29 [.slice pq nq kq,.slice pc nc kc,.slice pb nb kb,.slice ph nh kh]
 have c0:=rdC c 0
 have c1:=rdC c 1
 have c2:=rdC c 2
 have c3:=rdC c 3
 have ctp:RdP (sng b1 (.cells #[.slice pq nq kq,.slice pc nc kc,.slice pb nb kb,.slice ph nh kh] 29 (0,0))) b1 0 [.slice pq nq kq,.slice pc nc kc]:=rdP_sng (xs:=[.slice pq nq kq,.slice pc nc kc,.slice pb nb kb,.slice ph nh kh]) rfl
 refine Aaa ?_;refine Aci ?_;refine AS ?_;refine A3 (greatPlan_spec pq pc kq kc nq nc) rfl rfl rdZ rfl rfl ?_;rintro _ rfl
 by_cases h1:6 < nq ∨ 10 < nc
 ·rw [decide_eq_true h1,decide_eq_true (by omega)]
  refine Ac2 ?_;refine Abg ?_;refine Ab2 ?_;exact AI (res1 rfl rfl) rsubZ selZ ⟨rfl,rfl⟩
 rw [decide_eq_false h1]
 by_cases h2:30 < nb
 ·rw [decide_eq_true (by omega)]
  refine Aag ?_;refine AV ?_;refine CQ ?_;refine AJ ?_;refine Abg ?_;refine Ab2 ?_;exact AI (res1 rfl rfl) rsubZ selZ ⟨rfl,rfl⟩
 by_cases h3:30 < nh
 ·rw [decide_eq_true (by omega)]
  refine Aag ?_;refine Ad7 ?_;refine Aat ?_;refine AV ?_;refine CQ ?_;refine Ab4 ?_;exact AI (res1 rfl rfl) rsubZ selZ ⟨rfl,rfl⟩
 rw [decide_eq_false (by omega)]
 refine Aag ?_;refine Ad7 ?_;refine Aat ?_;refine Ad7 ?_;refine Ab4 ?_;exact AI (res1 rfl rfl) rsubZ selZ ⟨rfl,rfl⟩
set_option maxHeartbeats 16000000 in
theorem great53_spec (pq pc pb ph:Option Addr) (kq kc kb kh nq nc nb nh:Nat) (d:Dm):Ans Tryz.prog (fv 47) [.agg #[.slice pq nq kq,.slice pc nc kc,.slice pb nb kb,.slice ph nh kh],.agg #[int d.s,int d.d,int d.v,int d.r,int d.e]] [] (fun r=>∃ b,r = .bool b):=by
 refine spec_in (cap:=[]) Tryz.func47 rfl rfl Tryz.ntmps47 rfl envZ (fun N β=>?_)
 refine Aa ?_;refine BH (BM rfl) rfl rfl rfl ?_;rintro _ _ ⟨b1,rfl,rfl⟩;refine AT (ρ:=sng b1 _) takeZ ?_
 have c:=rdB b1 29 [.slice pq nq kq,.slice pc nc kc,.slice pb nb kb,.slice ph nh kh]
 have c0:=rdC c 0
 have c1:=rdC c 1
 have c2:=rdC c 2
 have c3:=rdC c 3
 refine BH (BM rfl) rfl rfl rfl ?_;rintro _ _ ⟨b2,rfl,rfl⟩;refine AT (ρ:=sng b2 _) takeZ ?_
 have cd:=rdB b2 31 [int d.s,int d.d,int d.v,int d.r,int d.e]
 have cd0:=rdC cd 0
 have cd1:=rdC cd 1
 have cd2:=rdC cd 2
 have cd3:=rdC cd 3
 have cd4:=rdC cd 4
 refine Aaa ?_;refine Abp ?_;refine A3 (great29_spec pq pc pb ph kq kc kb kh nq nc nb nh) rfl rfl rdZ rfl rfl ?_;rintro _ rfl
 obtain ⟨w1,hw1⟩:∃ w1,w1 = IntKind.i64.wrap (d.r + 24):=⟨_,rfl⟩
 obtain ⟨w2,hw2⟩:∃ w2,w2 = IntKind.i64.wrap (d.r + 100):=⟨_,rfl⟩
 cases decide (6 < nq ∨ 10 < nc ∨ 30 < nb ∨ 30 < nh) with
 | true =>
  refine Ac0 ?_;refine Aab ?_;refine Aab ?_;refine Aab ?_;refine Aab ?_;refine Ab2 ?_;exact AI (res1 rfl rfl) rsubZ selZ ⟨rfl,_,rfl⟩
 | false =>
 by_cases h2:w1 < d.e
 ·by_cases h3:d.e ≤ w2
  ·refine AB ?_
   refine Aco ?_
   focus ((refine CH (EY rfl rfl) rfl rfl rfl ?_; first | rw [← hw1] | rw [← hw2]))
   refine CQ ?_;refine Aa5 ?_
   focus ((refine CH (EY rfl rfl) rfl rfl rfl ?_; first | rw [← hw1] | rw [← hw2]))
   refine CU ?_;refine AN ?_;refine Ab4 ?_;exact AI (res1 rfl rfl) rsubZ selZ ⟨rfl,_,rfl⟩
  ·refine AB ?_
   refine Aco ?_
   focus ((refine CH (EY rfl rfl) rfl rfl rfl ?_; first | rw [← hw1] | rw [← hw2]))
   refine CQ ?_;refine Aa5 ?_
   focus ((refine CH (EY rfl rfl) rfl rfl rfl ?_; first | rw [← hw1] | rw [← hw2]))
   refine CZ ?_;refine AN ?_;refine Ab4 ?_;exact AI (res1 rfl rfl) rsubZ selZ ⟨rfl,_,rfl⟩
 ·refine AB ?_
  refine Aco ?_
  focus ((refine CH (EY rfl rfl) rfl rfl rfl ?_; first | rw [← hw1] | rw [← hw2]))
  refine B0 ?_;refine Ac0 ?_;refine AJ ?_;refine Ab4 ?_;exact AI (res1 rfl rfl) rsubZ selZ ⟨rfl,_,rfl⟩
def okDmB (nq:Nat) (d:Dm):Bool:=decide (okDm nq d)
set_option maxHeartbeats 32000000 in
theorem demand53_spec (pq pc:Option Addr) (kq kc nq nc:Nat) (d:Dm):Ans Tryz.prog (fv 59) [.agg #[.slice pq nq kq,.slice pc nc kc],.agg #[int d.s,int d.d,int d.v,int d.r,int d.e]] [] (fun r=>r = .bool (okDmB nq d)):=by
 refine spec_in (cap:=[]) Tryz.func59 rfl rfl Tryz.ntmps59 rfl envZ (fun N β=>?_)
 refine Aa ?_;refine BH (BM rfl) rfl rfl rfl ?_;rintro _ _ ⟨b1,rfl,rfl⟩;refine AT (ρ:=sng b1 _) takeZ ?_
 have c:=rdB b1 25 [.slice pq nq kq,.slice pc nc kc]
 have c0:=rdC c 0
 have c1:=rdC c 1
 refine BH (BM rfl) rfl rfl rfl ?_;rintro _ _ ⟨b2,rfl,rfl⟩;refine AT (ρ:=sng b2 _) takeZ ?_
 have cd:=rdB b2 31 [int d.s,int d.d,int d.v,int d.r,int d.e]
 have cd0:=rdC cd 0
 have cd1:=rdC cd 1
 have cd2:=rdC cd 2
 have cd3:=rdC cd 3
 have cd4:=rdC cd 4
 by_cases c1:d.s < 0
 ·rw [show okDmB nq d = false from decide_eq_false (fun h=>by unfold okDm at h; omega)]
  refine Ady ?_;refine BB ?_;refine Ac2 ?_;refine Abw ?_;refine Ac2 ?_;refine Adw ?_;refine Aem ?_;exact AI (res1 rfl rfl) rsubZ selZ ⟨rfl,rfl⟩
 by_cases c182:(nq:Int) ≤ d.s
 ·rw [show okDmB nq d = false from decide_eq_false (fun h=>by unfold okDm at h; omega)]
  refine Ad6 ?_;refine AB ?_;refine CL ?_;refine AJ ?_;refine Abw ?_;refine Ac2 ?_;refine Adw ?_;refine Aem ?_;exact AI (res1 rfl rfl) rsubZ selZ ⟨rfl,rfl⟩
 by_cases c374:d.d < 0
 ·rw [show okDmB nq d = false from decide_eq_false (fun h=>by unfold okDm at h; omega)]
  refine Aee ?_;refine BB ?_;refine AJ ?_;refine Ac2 ?_;refine Adw ?_;refine Aem ?_;exact AI (res1 rfl rfl) rsubZ selZ ⟨rfl,rfl⟩
 by_cases c557:(nq:Int) ≤ d.d
 ·rw [show okDmB nq d = false from decide_eq_false (fun h=>by unfold okDm at h; omega)]
  refine Aee ?_;refine Abq ?_;refine AB ?_;refine CL ?_;refine AJ ?_;refine Adw ?_;refine Aem ?_;exact AI (res1 rfl rfl) rsubZ selZ ⟨rfl,rfl⟩
 by_cases c749:d.s = d.d
 ·rw [show okDmB nq d = false from decide_eq_false (fun h=>by unfold okDm at h; omega)]
  refine Aee ?_;refine Ac1 ?_;refine CT ?_;refine AJ ?_;refine Aem ?_;exact AI (res1 rfl rfl) rsubZ selZ ⟨rfl,rfl⟩
 by_cases c934:d.v < 1
 ·rw [show okDmB nq d = false from decide_eq_false (fun h=>by unfold okDm at h; omega)]
  refine Aee ?_;refine Adl ?_;refine Aat ?_;refine BB ?_;refine AJ ?_;refine Adr ?_;exact AI (res1 rfl rfl) rsubZ selZ ⟨rfl,rfl⟩
 by_cases c1117:1099511627776 < d.v
 ·rw [show okDmB nq d = false from decide_eq_false (fun h=>by unfold okDm at h; omega)]
  refine Aee ?_;refine Adl ?_;refine Aat ?_;refine Abq ?_;refine CQ ?_;refine Adu ?_;exact AI (res1 rfl rfl) rsubZ selZ ⟨rfl,rfl⟩
 by_cases c1313:d.r < 0
 ·rw [show okDmB nq d = false from decide_eq_false (fun h=>by unfold okDm at h; omega)]
  refine Aee ?_;refine Adl ?_;refine Aat ?_;refine Abq ?_;refine B0 ?_;refine Acz ?_;refine BL ?_;refine Abz ?_;refine AJ ?_;refine Aeb ?_;refine Ae1 ?_;exact AI (res1 rfl rfl) rsubZ selZ ⟨rfl,rfl⟩
 by_cases c1497:d.e ≤ d.r
 ·rw [show okDmB nq d = false from decide_eq_false (fun h=>by unfold okDm at h; omega)]
  refine Aee ?_;refine Adl ?_;refine Aat ?_;refine Abq ?_;refine B0 ?_;refine Aei ?_;refine Aa5 ?_;refine A0 ?_;refine AN ?_;refine Aeb ?_;refine Ae1 ?_;exact AI (res1 rfl rfl) rsubZ selZ ⟨rfl,rfl⟩
 by_cases c1683:1099511627776 < d.e
 ·rw [show okDmB nq d = false from decide_eq_false (fun h=>by unfold okDm at h; omega)]
  refine Aee ?_;refine Adl ?_;refine Aat ?_;refine Abq ?_;refine B0 ?_;refine Aei ?_;refine Aa5 ?_;refine BB ?_;refine Ac4 ?_;refine CZ ?_;refine AN ?_;refine Ae1 ?_;exact AI (res1 rfl rfl) rsubZ selZ ⟨rfl,rfl⟩
 by_cases c1879:100 < d.e - d.r
 ·rw [show okDmB nq d = false from decide_eq_false (fun h=>by unfold okDm at h; omega)]
  refine Aee ?_;refine Adl ?_;refine Aat ?_;refine Abq ?_;refine B0 ?_;refine Aei ?_;refine Aa5 ?_;refine BB ?_;refine Ac4 ?_;refine CU ?_;refine Acw ?_;refine CN ?_;refine CZ ?_;refine Ab2 ?_;exact AI (res1 rfl rfl) rsubZ selZ ⟨rfl,rfl⟩
 rw [show okDmB nq d = true from decide_eq_true (by unfold okDm; omega)]
 refine Aee ?_;refine Adl ?_;refine Aat ?_;refine Abq ?_;refine B0 ?_;refine Aei ?_;refine Aa5 ?_;refine BB ?_;refine Ac4 ?_;refine CU ?_;refine Acw ?_;refine CN ?_;refine CU ?_;refine Ab2 ?_;exact AI (res1 rfl rfl) rsubZ selZ ⟨rfl,rfl⟩
end Go.Proofs.YtjehnjhkcmobcaaGreat
