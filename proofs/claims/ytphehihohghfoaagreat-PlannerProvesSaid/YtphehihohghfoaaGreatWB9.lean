/- Texts of this proof, one after the other; no conditions. -/
import Derived.Test.YtphehihohghfoaaGreatRows
import Derived.Test.YtphehihohghfoaaGreatWB8
import Derived.Test.YtphehihohghfoaaGreatWB3
import Derived.Test.YtphehihohghfoaaGreatWB1
import Derived.Test.YtphehihohghfoaaGreatWB6
import Derived.Test.YtphehihohghfoaaGreatWB7
import Derived.Test.YtphehihohghfoaaGreatWB5
import Derived.Test.YtphehihohghfoaaGreatWB2
set_option linter.all false
/- The arcs, one after the other. -/
namespace Go.Proofs.YtphehihohghfoaaGreat
open Go.Eng Go.Step
set_option maxRecDepth 100000
set_option maxHeartbeats 4000000

def encEA (x:EA):List Value:=[.agg #[int x.a.f,int x.a.t,int x.a.c,int x.c,int x.t]]
theorem arcs_spec (bw:Nat) :
  Eng.Spec Tryz.prog (fv 72) [.pointer (some ⟨bw,0,none⟩)] [] [] (fun r H'=>∃ c1,r = .func (.func 102) #[] #[.pointer (some ⟨c1,0,none⟩)] ∧ H' = [sng c1 (.cells #[.pointer (some ⟨bw,0,none⟩)] 125 (0,0))]):=by
 refine spec_in (cap:=[]) Tryz.func72 rfl rfl Tryz.ntmps72 rfl envZ (fun N β=>?_)
 refine Aa ?_;refine BH (CX rfl rfl) rfl rfl rfl ?_;rintro _ _ ⟨c1,rfl,rfl⟩;refine Aab ?_;refine Aa ?_;refine BW ?_;refine Aab ?_;exact AI (res1 rfl rfl) rsubZ selZ ⟨c1,rfl,rfl⟩
theorem numAt_get {d:Dm} {N:Nat} {M:List (List Int × Value)} (h:NumAt d N d.r M) {n t:Int} (h0:0 ≤ n) (hn:n < N) (h1:d.r ≤ t) (h2:t ≤ d.e):mgetS [n,t] M = some (int (vtx d n t)):=by
 rw [h.2,if_pos (by omega)]
set_option maxHeartbeats 64000000 in
theorem arcs_iter {ρ τ σ υ:PH} {pq pc pb ph:Option Addr} {kq kc kb kh:Nat} {qs:List Int} {cs:List Ct} {bs:List Bk} {hs:List Hd} (hT:TbAt ρ τ σ υ pq pc pb ph kq kc kb kh qs cs bs hs) (bw bm c1 kp:Nat) (pl:Option Addr) (χ:PH) (M:List (List Int × Value)) (d:Dm) (h:VOk qs cs bs hs d) (h0:chkB qs cs bs = 0) (hpl:SlE encS 2 χ (.slice pl (placesA d qs.length).length kp) (placesA d qs.length)) (hM:NumAt d qs.length d.r M) :
  Iter Tryz.prog (.func (.func 102) #[] #[.pointer (some ⟨c1,0,none⟩)]) [sng c1 (.cells #[.pointer (some ⟨bw,0,none⟩)] 125 (0,0)),sng bw (.cells #[.slice pq qs.length kq,.slice pc cs.length kc,.slice pb bs.length kb,.slice ph hs.length kh,int d.s,int d.d,int d.v,int d.r,int d.e,.slice pl (placesA d qs.length).length kp,.map (some bm)] 134 (0,0)),sng bm (mapS M),χ,ρ,τ,σ,υ] ((arcsE qs cs bs hs d).map encEA):=by
 intro y S Own Inv Stop Ry hy hyl σ0 hI0
 obtain ⟨yl,rfl⟩:=hyl
 have hdm:=h.dm
 unfold okDm at hdm
 have hnq:=h.nq
 have hnc:=h.nc
 have hMl:=hM.1
 have hW:2 ≤ (wd d).toNat ∧ (wd d).toNat = (d.e - d.r).toNat + 1:=by unfold wd; omega
 have hplen:=placesA_len (d:=d) (by omega) qs.length
 have hpb:(placesA d qs.length).length ≤ 1616:=by
  have:=h.vs
  unfold vsN at this;omega
 obtain ⟨_,_,ep,hrp⟩:=hpl.val encS_len
 simp only [Value.slice.injEq] at ep
 obtain ⟨rfl,_,rfl⟩:=ep
 have w0:rdc (sng bw (.cells #[.slice pq qs.length kq,.slice pc cs.length kc,.slice pb bs.length kb,.slice ph hs.length kh,int d.s,int d.d,int d.v,int d.r,int d.e,.slice pl (placesA d qs.length).length kp,.map (some bm)] 134 (0,0))) bw 0 = some (.slice pq qs.length kq):=by rw [rdc_sng]; rfl
 have w1:rdc (sng bw (.cells #[.slice pq qs.length kq,.slice pc cs.length kc,.slice pb bs.length kb,.slice ph hs.length kh,int d.s,int d.d,int d.v,int d.r,int d.e,.slice pl (placesA d qs.length).length kp,.map (some bm)] 134 (0,0))) bw 1 = some (.slice pc cs.length kc):=by rw [rdc_sng]; rfl
 have w2:rdc (sng bw (.cells #[.slice pq qs.length kq,.slice pc cs.length kc,.slice pb bs.length kb,.slice ph hs.length kh,int d.s,int d.d,int d.v,int d.r,int d.e,.slice pl (placesA d qs.length).length kp,.map (some bm)] 134 (0,0))) bw 2 = some (.slice pb bs.length kb):=by rw [rdc_sng]; rfl
 have w3:rdc (sng bw (.cells #[.slice pq qs.length kq,.slice pc cs.length kc,.slice pb bs.length kb,.slice ph hs.length kh,int d.s,int d.d,int d.v,int d.r,int d.e,.slice pl (placesA d qs.length).length kp,.map (some bm)] 134 (0,0))) bw 3 = some (.slice ph hs.length kh):=by rw [rdc_sng]; rfl
 have w4:rdc (sng bw (.cells #[.slice pq qs.length kq,.slice pc cs.length kc,.slice pb bs.length kb,.slice ph hs.length kh,int d.s,int d.d,int d.v,int d.r,int d.e,.slice pl (placesA d qs.length).length kp,.map (some bm)] 134 (0,0))) bw 4 = some (int d.s):=by rw [rdc_sng]; rfl
 have w5:rdc (sng bw (.cells #[.slice pq qs.length kq,.slice pc cs.length kc,.slice pb bs.length kb,.slice ph hs.length kh,int d.s,int d.d,int d.v,int d.r,int d.e,.slice pl (placesA d qs.length).length kp,.map (some bm)] 134 (0,0))) bw 5 = some (int d.d):=by rw [rdc_sng]; rfl
 have w6:rdc (sng bw (.cells #[.slice pq qs.length kq,.slice pc cs.length kc,.slice pb bs.length kb,.slice ph hs.length kh,int d.s,int d.d,int d.v,int d.r,int d.e,.slice pl (placesA d qs.length).length kp,.map (some bm)] 134 (0,0))) bw 6 = some (int d.v):=by rw [rdc_sng]; rfl
 have w7:rdc (sng bw (.cells #[.slice pq qs.length kq,.slice pc cs.length kc,.slice pb bs.length kb,.slice ph hs.length kh,int d.s,int d.d,int d.v,int d.r,int d.e,.slice pl (placesA d qs.length).length kp,.map (some bm)] 134 (0,0))) bw 7 = some (int d.r):=by rw [rdc_sng]; rfl
 have w8:rdc (sng bw (.cells #[.slice pq qs.length kq,.slice pc cs.length kc,.slice pb bs.length kb,.slice ph hs.length kh,int d.s,int d.d,int d.v,int d.r,int d.e,.slice pl (placesA d qs.length).length kp,.map (some bm)] 134 (0,0))) bw 8 = some (int d.e):=by rw [rdc_sng]; rfl
 have w9:rdc (sng bw (.cells #[.slice pq qs.length kq,.slice pc cs.length kc,.slice pb bs.length kb,.slice ph hs.length kh,int d.s,int d.d,int d.v,int d.r,int d.e,.slice pl (placesA d qs.length).length kp,.map (some bm)] 134 (0,0))) bw 9 = some (.slice pl (placesA d qs.length).length kp):=by rw [rdc_sng]; rfl
 have w10:rdc (sng bw (.cells #[.slice pq qs.length kq,.slice pc cs.length kc,.slice pb bs.length kb,.slice ph hs.length kh,int d.s,int d.d,int d.v,int d.r,int d.e,.slice pl (placesA d qs.length).length kp,.map (some bm)] 134 (0,0))) bw 10 = some (.map (some bm)):=by rw [rdc_sng]; rfl
 have wp:RdP (sng bw (.cells #[.slice pq qs.length kq,.slice pc cs.length kc,.slice pb bs.length kb,.slice ph hs.length kh,int d.s,int d.d,int d.v,int d.r,int d.e,.slice pl (placesA d qs.length).length kp,.map (some bm)] 134 (0,0))) bw 0 [.slice pq qs.length kq,.slice pc cs.length kc]:=rdP_sng (xs:=[.slice pq qs.length kq,.slice pc cs.length kc,.slice pb bs.length kb,.slice ph hs.length kh,int d.s,int d.d,int d.v,int d.r,int d.e,.slice pl (placesA d qs.length).length kp,.map (some bm)]) rfl
 have v1:rdc (sng c1 (.cells #[.pointer (some ⟨bw,0,none⟩)] 125 (0,0))) c1 0 = some (.pointer (some ⟨bw,0,none⟩)):=by rw [rdc_sng]; rfl
 simp only [List.cons_append,List.nil_append]
 refine spec_in (cap:=[.pointer (some ⟨c1,0,none⟩)]) Tryz.func102 rfl rfl Tryz.ntmps102 rfl envZ (fun N β=>?_)
 refine Aa ?_;refine BH (CX rfl rfl) rfl rfl rfl ?_;rintro _ _ ⟨b2,rfl,rfl⟩;refine AR (ρ:=sng b2 _) takeZ ?_
 have v2:rdc (sng b2 (.cells #[yv yl] 185 (0,0))) b2 0 = some (yv yl):=by rw [rdc_sng]; rfl
 refine Aaj ?_;refine Abd ?_;refine Adi ?_;refine Abh ?_
 refine BA [0,1,2,13,14] (X:=Nat × S) (0,σ0) (fun z=>z.1 ≤ (placesA d qs.length).length ∧ Inv (z.1 - z.1 / (wd d).toNat) z.2) (fun z=>[(15,int z.1)]) (fun z=>Own z.2) (fun z=>(placesA d qs.length).length - z.1) pickZ ⟨by dsimp only; omega,by dsimp only; rw [Nat.zero_sub]; exact hI0⟩ covZ Sel.refl ?_
 rintro ⟨k,σ'⟩ ⟨hk,hI⟩
 dsimp only at hk hI ⊢
 by_cases hlt:k < (placesA d qs.length).length
 ·obtain ⟨n,t,hn,ht1,ht2,hkv,hkn⟩:=place_of (d:=d) (by omega) (k:=k) (N:=qs.length) (by omega)
  have hx:=placesA_get (d:=d) (by omega) ht1 ht2 hn
  rw [← hkv,Int.toNat_natCast] at hx
  have hdiv:k / (wd d).toNat = n:=by
   rw [hkn,Nat.mul_comm,Nat.mul_add_div (by omega),Nat.div_eq_of_lt (by omega),Nat.add_zero]
  obtain ⟨b6,o6,rfl,hRd6,y0,y1⟩:=spRow hrp hx
  have hl1:=numAt_get hM (n:=n) (t:=t) (by omega) (by omega) ht1 ht2
  have hroom:=exRoom_spec hT bw bm (.slice (some ⟨b6,o6,none⟩) (placesA d qs.length).length kp) d h n t hn
  rw [hdiv] at hI
  by_cases hte:t = d.e
  ·have hnext:(k + 1) - (k + 1) / (wd d).toNat = k - n:=by
    have e:k + 1 = (n + 1) * (wd d).toNat:=by rw [Nat.add_mul,Nat.one_mul]; omega
    rw [e,Nat.mul_div_cancel _ (by omega)]
    omega
   refine Ab2 ?_;refine AX ?_; rintro _ _ ⟨b,rfl,rfl⟩;refine AV ?_; rintro _ _ ⟨rfl,rfl⟩;refine Aaj ?_;refine AC ?_
   revert b; intro b4
   refine A5 (.q 0 (.q 1 (.q 2 (.q 3 (.q 4 (.q 5 (.q 6 (.q 7 .nil)))))))) [] rfl (by kernel_rfl) Sel.nil ?_
   refine Aar ?_;refine AQ ?_;refine Ac5 ?_;refine Acb ?_;refine EK ?_;refine Abs ?_;refine A7 rfl ?_;refine AA ?_;refine Aa1 ?_
   exact AY (k + 1,σ') ⟨by dsimp only; omega,by dsimp only; rw [hnext]; exact hI⟩ (by dsimp only; omega) covZ (Sel.skip Sel.refl)
  have hl2:=numAt_get hM (n:=n) (t:=t + 1) (by omega) (by omega) (by omega) (by omega)
  have hnm:k - n = n * (d.e - d.r).toNat + (t - d.r).toNat:=by
   rw [hkn,hW.2,Nat.mul_add,Nat.mul_one];omega
  have hnext:(k + 1) - (k + 1) / (wd d).toNat = k - n + 1:=by
   have e:(k + 1) / (wd d).toNat = n:=by
    rw [show k + 1 = (wd d).toNat * n + ((t - d.r).toNat + 1) by rw [Nat.mul_comm]; omega,Nat.mul_add_div (by omega),Nat.div_eq_of_lt (by omega),Nat.add_zero]
   have:n ≤ k:=by
    have:=Nat.le_mul_of_pos_right n (show 0 < (wd d).toNat by omega)
    omega
   rw [e];omega
  have hat:=arcs_wait (qs:=qs) (cs:=cs) (bs:=bs) (hs:=hs) hn ht1 (show t < d.e by omega)
  rw [← hnm] at hat
  have hya:=hy _ σ' (encEA ⟨⟨vtx d n t,vtx d n (t + 1),roomT qs hs d n t⟩,-1,t⟩) (by rw [List.getElem?_map,hat]; rfl) hI
  refine Ab2 ?_;refine AX ?_; rintro _ _ ⟨b,rfl,rfl⟩;refine AV ?_; rintro _ _ ⟨rfl,rfl⟩;refine Aaj ?_;refine AC ?_
  revert b; intro b4
  refine A5 (.q 0 (.q 1 (.q 2 (.q 3 (.q 4 (.q 5 (.q 6 (.q 7 .nil)))))))) [] rfl (by kernel_rfl) Sel.nil ?_
  refine Aar ?_;refine AQ ?_;refine Ac5 ?_;refine Acb ?_;refine C3 ?_;refine Ad5 ?_
  refine E9 (X:=Nat) [0,1,2,4,13,14,15] (fun _=>True) (fun x=>[(5,.pointer (some ⟨x,0,none⟩))]) (fun x=>sng x (.cells #[int (vtx d n t),int (vtx d n (t + 1)),int (roomT qs hs d n t)] 141 (0,0)) :: sng b4 (.cells #[int (n:Int),int t] 130 (0,0)) :: Own σ') pickZ ?_ ?_
  ·refine A5 (.q 0 (.q 1 (.q 2 (.q 3 (.q 4 (.q 5 (.q 6 (.q 7 (.q 8 (.q 9 (.q 10 (.q 11 (.q 12 (.q 13 (.q 14 (.q 15 (.q 16 (.q 17 (.q 18 (.l2 19 .e (.q 20 (.l 21 .e (.l 22 .b .nil))) 21 .e (.l 19 .e (.q 20 (.l 22 .b .nil))))))))))))))))))))))) [] rfl (by kernel_rfl) Sel.nil ?_
   repeat' (first
    | (refine AQ ?_)
    | (refine AU ?_)
    | (refine A0 ?_)
    | (refine C4 ?_)
    | (refine BN ?_)
    | (refine CQ ?_)
    | (focus ((refine' CT rfl _ rfl rfl rfl rfl _; rotate_left; (focus (first | exact CO 2 [(n:Int),t] rfl rfl rfl ⟨by kernel_rfl,by kernel_rfl⟩ rfl hMl rfl hl1 (mapAtS_rd memZ) | exact CO 2 [(n:Int),t + 1] rfl rfl rfl ⟨by kernel_rfl,by kernel_rfl⟩ rfl hMl rfl hl2 (mapAtS_rd memZ))))))
    | (focus ((refine CG rfl hroom rfl rfl rdZ rfl rfl ?_; rintro _ rfl)))
    | (refine A6 ?_)
    | (refine FW ?_ ?_)
    | (focus ((refine CP (CG rfl hroom rfl rfl rdZ rfl rfl ?_); rintro _ rfl)))
    | (focus ((refine CP ?_; refine' FX rfl _ rfl rfl _ _; rotate_left; (focus (apply C6; exact rfl; exact rfl; exact takeZ; exact (by (repeat (first | exact (fun v hv=>absurd hv List.not_mem_nil) | (refine List.forall_mem_cons.2 ⟨?_,?_⟩; (focus (first | exact rfl | assumption))))); first | done | fail); exact rfl; exact rfl)); (focus (rintro _ _ ⟨_,rfl⟩ w hw; exact hw.sel Sel.nil)); rintro _ _ ⟨rfl,rfl⟩)))
    | (refine C9 ?_; rintro _ _ ⟨b,rfl,rfl⟩)
    | (refine FQ ?_; rintro _ _ ⟨b,rfl,rfl⟩)
    | fail)
   all_goals (refine D0 _ trivial covZ Sel.refl)
  rintro b5 _;refine Abd ?_;refine AT ?_;refine Aac ?_;refine CD (DP (out:=[int (vtx d n t),int (vtx d n (t + 1)),int (roomT qs hs d n t),int (-1),int t]) rfl rfl rfl rfl rfl) rfl rfl rfl ?_
  refine BE hya rfl rfl (Takes.skip (Takes.skip Takes.all)) (fun τ hτ=>.inl (by simp [hτ])) rfl rfl ?_
  rintro _ H' ⟨σ3,rfl,⟨rfl,hI3⟩ | ⟨rfl,hSt⟩⟩
  ·refine CH (H':=_ :: _ :: Own σ3) (List.perm_append_comm (l₂:=[_,_])) ?_
   refine Ab4 ?_;refine Aa2 ?_
   exact AY (k + 1,σ3) ⟨by dsimp only; omega,by dsimp only; rw [hnext]; exact hI3⟩ (by dsimp only; omega) covZ (Sel.skip (Sel.skip Sel.refl))
  ·refine A9 ?_
   refine Aag ?_
   exact AI (res0 rfl) (fun _ h=>List.mem_cons_of_mem _ h) Sel.left ⟨σ3,rfl,.inr hSt⟩
 have hke:k = (placesA d qs.length).length:=by omega
 subst hke
 have hcnt:(placesA d qs.length).length - (placesA d qs.length).length / (wd d).toNat = (waitA qs hs d qs.length).length:=by
  have e:(placesA d qs.length).length = qs.length * (wd d).toNat:=by
   have hw:(((wd d).toNat:Nat):Int) = wd d:=by unfold wd; omega
   have:(((placesA d qs.length).length:Nat):Int) = ((qs.length * (wd d).toNat:Nat):Int):=by rw [hplen,Int.natCast_mul,hw]
   omega
  rw [e,Nat.mul_div_cancel _ (by omega),waitA_len,hW.2,Nat.mul_add,Nat.mul_one]
  omega
 rw [hcnt] at hI;refine BX ?_;refine Abr ?_;refine Abd ?_;refine BL ?_;refine AG ?_;refine AG ?_;refine Aac ?_;refine Abh ?_
 refine DN [0,1,2,61,62] (X:=Nat × S × (List Nat × PH)) (0,σ',([],emp)) (fun x=>x.2.2.1.map mk) (fun x=>x.1 ≤ cs.length ∧ Inv ((waitA qs hs d qs.length).length + (conA cs bs d x.1).length) x.2.1 ∧ MkIn x.2.2.2 x.2.2.1) (fun x=>[(63,int x.1)]) (fun x=>x.2.2.2 :: Own x.2.1) (fun x=>cs.length - x.1) pickZ rfl ⟨by dsimp only; omega,hI,MkIn.nil⟩ covZ Sel.refl ?_
 rintro ⟨i,σ4,ms,μ⟩ ⟨hi,hI4,hMk⟩
 dsimp only at hi hI4 hMk ⊢
 by_cases hlt2:i < cs.length
 rotate_left
 ·have hie:i = cs.length:=by omega
  subst hie;refine Abr ?_
  refine F7 hMk Take.here (res0 rfl) (fun _ h=>List.mem_cons_of_mem _ h) Sel.refl ⟨σ4,rfl,.inl ?_⟩
  rw [List.length_map];unfold arcsE;rw [List.length_append];exact hI4
 have hc:=List.getElem?_eq_getElem hlt2
 have hct:=h.ct _ (List.getElem_mem hlt2)
 have hcn:=conA_next cs bs d hc
 obtain ⟨b8,o8,rfl,hRd8⟩:=ctRow hT.rc hc
 have hticks:=fun c1' c2'=>ticks_iter hT bw bm c1' c2' (.slice pl (placesA d qs.length).length kp) d h h0 i _ hc
 have hat:=fun (j:Nat) (t:Int) (ht:(tickL d.r d.e cs[i].g (freeC cs bs i))[j]? = some t)=>arcs_con (qs:=qs) (hs:=hs) hc ht
 have hfree:=(h.free hc).2.2
 generalize cs[i] = x at hc hct hcn hRd8 hticks hat hfree
 refine Ad7 ?_;refine BR ?_; rintro _ _ ⟨b,rfl,rfl⟩;refine AX ?_; rintro _ _ ⟨b,rfl,rfl⟩;refine BD ?_; rintro _ _ ⟨rfl,rfl⟩;refine AV ?_; rintro _ _ ⟨rfl,rfl⟩;refine AE ?_;refine Abd ?_;refine AF ?_
 revert b; intro b7
 revert b; intro b6
 refine BE (ticks_spec bw i) rfl rfl Takes.nil (fun τ hτ=>by simp at hτ) rfl rfl ?_
 rintro _ _ ⟨c3,c4,rfl,rfl⟩;refine AR (ρ:=sng c3 _) takeZ ?_;refine AR (ρ:=sng c4 _) takeZ ?_;refine AR (ρ:=sng b6 _) takeZ ?_;refine AR (ρ:=sng b7 _) takeZ ?_
 have g6:rdc (sng b6 (.cells #[int (i:Int)] 3 (0,0))) b6 0 = some (int (i:Int)):=by rw [rdc_sng]; rfl
 have f0:rdc (sng b7 (.cells #[int x.f,int x.t,int x.s,int x.e,int x.r,int x.g,int x.l] 57 (0,0))) b7 0 = some (int x.f):=by rw [rdc_sng]; rfl
 have f1:rdc (sng b7 (.cells #[int x.f,int x.t,int x.s,int x.e,int x.r,int x.g,int x.l] 57 (0,0))) b7 1 = some (int x.t):=by rw [rdc_sng]; rfl
 have f4:rdc (sng b7 (.cells #[int x.f,int x.t,int x.s,int x.e,int x.r,int x.g,int x.l] 57 (0,0))) b7 4 = some (int x.r):=by rw [rdc_sng]; rfl
 have f5:rdc (sng b7 (.cells #[int x.f,int x.t,int x.s,int x.e,int x.r,int x.g,int x.l] 57 (0,0))) b7 5 = some (int x.g):=by rw [rdc_sng]; rfl
 refine AE ?_;refine AP ?_
 refine CW (gf:=135) (cap:=[.pointer (some ⟨c3,0,none⟩),.pointer (some ⟨c4,0,none⟩)]) (ps:=[71]) (X:=S) rfl Tryz.func135 rfl rfl
  (hticks c3 c4) ?_ (fun j σ=>Inv ((waitA qs hs d qs.length).length + (conA cs bs d i).length + j) σ) (fun σ=>Own σ) (fun c σ=>c = .ret ∧ Stop σ) σ4 rfl (Takes.skip Takes.all) hI4 ?_ ?_ ?_
 ·intro σ' hσ
  simp only [List.mem_cons,List.not_mem_nil,or_false] at hσ ⊢
  rcases hσ with h | h | h | h | h | h | h <;> simp [h]
 ·rintro lo r j σ5 vs hvs hI5 hps has hbd hst hpe hfr
  obtain ⟨st,pe,fnn,tm,prm,asg,bdy,df⟩:=r
  simp only at hps has hbd hst hpe hfr;subst hps has hbd hst hpe;rw [List.getElem?_map] at hvs
  obtain ⟨t,ht,rfl⟩:=Option.map_eq_some_iff.1 hvs
  obtain ⟨_,ht1,ht2⟩:=mem_tickL.1 (List.mem_of_getElem? ht)
  have hl1:=numAt_get hM (n:=x.f) (t:=t) hct.1.1 hct.1.2 ht1 (by omega)
  have hl2:=numAt_get hM (n:=x.t) (t:=t + 1 + x.g) hct.2.1.1 hct.2.1.2 (by omega) (by omega)
  have hya:=hy _ σ5 (encEA (conE d x i t)) (by rw [List.getElem?_map,hat j t ht]; rfl) hI5
  refine yield_spec hfr rfl (by intro p hp; simp at hp; omega) putiZ (fun N' β'=>?_)
  dsimp only
  refine AA ?_;refine Aab ?_;refine CM rfl rfl ?_;refine CV takeZ rfl ?_;refine AP ?_;refine AC ?_
  refine A5 (.q 0 (.q 1 (.q 2 (.q 3 (.q 4 (.q 5 (.q 6 (.q 7 (.q 8 (.q 9 (.q 10 (.q 11 (.q 12 (.q 13 (.q 14 (.q 15 (.q 16 (.q 17 (.q 18 (.q 19 (.q 20 (.q 21 (.q 22 (.q 23 (.q 24 (.l 25 .e (.l 26 .b .nil))))))))))))))))))))))))))) [] rfl (by kernel_rfl) Sel.nil ?_
  refine AQ ?_;refine Abw ?_;refine Aar ?_;refine AS ?_;refine CQ ?_
  focus ((refine' CT rfl _ rfl rfl rfl rfl _; rotate_left; (focus (first | exact CO 2 [x.f,t] rfl rfl rfl ⟨by kernel_rfl,by kernel_rfl⟩ rfl hMl rfl hl1 (mapAtS_rd memZ) | exact CO 2 [x.t,t + 1 + x.g] rfl rfl rfl ⟨by kernel_rfl,by kernel_rfl⟩ rfl hMl rfl hl2 (mapAtS_rd memZ)))))
  refine AQ ?_;refine Abw ?_;refine Aar ?_;refine AS ?_;refine C4 ?_;refine Aar ?_;refine C4 ?_;refine CQ ?_
  focus ((refine' CT rfl _ rfl rfl rfl rfl _; rotate_left; (focus (first | exact CO 2 [x.f,t] rfl rfl rfl ⟨by kernel_rfl,by kernel_rfl⟩ rfl hMl rfl hl1 (mapAtS_rd memZ) | exact CO 2 [x.t,t + 1 + x.g] rfl rfl rfl ⟨by kernel_rfl,by kernel_rfl⟩ rfl hMl rfl hl2 (mapAtS_rd memZ)))))
  refine Aar ?_;refine CQ ?_;refine C9 ?_; rintro _ _ ⟨b,rfl,rfl⟩
  focus ((refine CP ?_; refine' FX rfl _ rfl rfl _ _; rotate_left; (focus (apply C6; exact rfl; exact rfl; exact takeZ; exact (by (repeat (first | exact (fun v hv=>absurd hv List.not_mem_nil) | (refine List.forall_mem_cons.2 ⟨?_,?_⟩; (focus (first | exact rfl | assumption))))); first | done | fail); exact rfl; exact rfl)); (focus (rintro _ _ ⟨_,rfl⟩ w hw; exact hw.sel Sel.nil)); rintro _ _ ⟨rfl,rfl⟩))
  refine A6 ?_
  revert b; intro b9
  refine Abd ?_;refine AT ?_;refine Aca ?_;refine CD (DP (out:=[int (vtx d x.f t),int (vtx d x.t (t + 1 + x.g)),int x.r,int (i:Int),int t]) rfl rfl rfl rfl rfl) rfl rfl rfl ?_
  refine BE hya rfl rfl (Takes.skip (Takes.skip Takes.all)) (fun τ hτ=>.inl (by simp [hτ])) rfl rfl ?_
  rintro _ H' ⟨σ6,rfl,⟨rfl,hI6⟩ | ⟨rfl,hSt⟩⟩
  ·refine CH (H':=_ :: _ :: Own σ6) (List.perm_append_comm (l₂:=[_,_])) ?_
   refine Ab4 ?_;refine A3 ?_;exact BP (Take.there Take.here) rsubZ (Sel.cons Take.here (Sel.skip Sel.refl)) ⟨σ6,.inl ⟨rfl,hI6,rfl⟩⟩
  ·refine CH (H':=_ :: _ :: Own σ6) (List.perm_append_comm (l₂:=[_,_])) ?_
   refine Ac2 ?_;exact EP (Take.there Take.here) rsubZ (Sel.cons Take.here (Sel.skip Sel.refl)) ⟨σ6,.inr ⟨rfl,.ret,⟨rfl,hSt⟩,rfl⟩⟩
 ·rintro b9 σ5 hI5
  rw [List.length_map] at hI5;refine CH (H':=sng b9 defO :: μ :: Own σ5) (List.Perm.cons _ (List.perm_append_comm (l₂:=[_]))) ?_
  refine DM (R':=_) (fun _ h=>List.mem_cons_of_mem _ (List.mem_cons_of_mem _ (List.mem_cons_of_mem _ (List.mem_cons_of_mem _ (h))))) ?_
  refine CR (b:=b9) Take.here (μ:=μ) Take.here hMk ?_
  intro μ2 hM2
  refine A3 ?_;refine Aa2 ?_
  refine C7 (i + 1,σ5,(b9 :: ms,μ2)) rfl ⟨by dsimp only; omega,?_,hM2⟩ (by dsimp only; omega) covZ Sel.refl
  dsimp only
  rw [hcn,← Nat.add_assoc];exact hI5
 ·rintro b9 c σ5 ⟨rfl,hSt⟩
  refine CH (H':=sng b9 defO :: μ :: Own σ5) (List.Perm.cons _ (List.perm_append_comm (l₂:=[_]))) ?_;refine CR (b:=b9) Take.here (μ:=μ) Take.here hMk ?_
  intro μ2 hM2
  exact DL (ms:=b9 :: ms) hM2 Take.here (res0 rfl) (fun _ h=>List.mem_cons_of_mem _ (List.mem_cons_of_mem _ (List.mem_cons_of_mem _ (List.mem_cons_of_mem _ (List.mem_cons_of_mem _ (h)))))) Sel.refl ⟨σ5,rfl,.inr hSt⟩
end Go.Proofs.YtphehihohghfoaaGreat
/- Check, ends and the like: what they answer. -/
namespace Go.Proofs.YtphehihohghfoaaGreat
open Go.Eng Go.Flow
set_option maxRecDepth 100000
set_option maxHeartbeats 4000000

def encA (a:Arc):List Value:=[int a.f,int a.t,int a.c]
theorem encA_len (a:Arc):(encA a).length = 3:=rfl
abbrev ArcsAt (ρ:PH) (v:Value) (l:List Arc):Prop:=SlE encA 3 ρ v l
theorem arcRow {ρ:PH} {p:Option Addr} {l:List Arc} (h:RowsE encA 3 ρ p l) {i:Nat} {x:Arc} (hx:l[i]? = some x) :
  ∃ b o,p = some ⟨b,o,none⟩ ∧ RdN ρ b (o + i * 3) [int x.f,int x.t,int x.c] ∧ rdc ρ b (o + i * 3) = some (int x.f) ∧ rdc ρ b (o + i * 3 + 1) = some (int x.t) ∧ rdc ρ b (o + i * 3 + 2) = some (int x.c):=by
 obtain ⟨b,o,e,hr⟩:=h i x hx
 exact ⟨b,o,e,hr,hr.get0,hr.get (j:=1) rfl,hr.get (j:=2) rfl⟩

theorem inside_spec (k n:Int):Ans Tryz.prog (fv 82) [int k,int n] [] (fun v=>(v = .bool true ∧ 0 ≤ k ∧ k < n) ∨ (v = .bool false ∧ (k < 0 ∨ n ≤ k))):=by
 refine spec_in (cap:=[]) Tryz.func82 rfl rfl Tryz.ntmps82 rfl envZ (fun N β=>?_)
 repeat' (first
  | (refine AB ?_)
  | (refine AD ?_)
  | (refine AL ?_)
  | (refine AJ ?_)
  | (refine AC ?_)
  | (refine AA ?_)
  | (refine AE ?_)
  | (refine AH rfl rfl rfl ?_)
  | (focus ((refine B7 rfl rfl (cmp_lt _ _) rfl rfl (fun h=>?_) (fun h=>?_))))
  | (focus ((refine B7 rfl rfl (cmp_le _ _) rfl rfl (fun h=>?_) (fun h=>?_))))
  | fail)
 all_goals refine AI (res1 rfl rfl) rsubZ selZ ⟨rfl,?_⟩
 ·exact .inl ⟨rfl,by omega⟩
 ·exact .inr ⟨rfl,by omega⟩
 ·exact .inr ⟨rfl,by omega⟩

theorem ends_spec (n s t:Int):Ans Tryz.prog (fv 57) [int n,int s,int t] [] (fun v=>v = int (if okEnds n s t then 0 else 2)):=by
 refine spec_in (cap:=[]) Tryz.func57 rfl rfl Tryz.ntmps57 rfl envZ (fun N β=>?_)
 repeat' (first
  | (refine AB ?_)
  | (refine AD ?_)
  | (refine AL ?_)
  | (refine AJ ?_)
  | (refine A9 ?_)
  | (refine AC ?_)
  | (refine AA ?_)
  | (refine AE ?_)
  | (refine AK ?_)
  | (refine AN rfl ?_)
  | (refine AM rfl ?_)
  | (refine AH rfl rfl rfl ?_)
  | (focus ((refine A2 (inside_spec _ _) rfl rfl rdZ rfl rfl ?_; rintro v (⟨rfl,h⟩ | ⟨rfl,h⟩))))
  | (focus ((refine B7 rfl rfl (cmp_eq _ _) rfl rfl (fun h=>?_) (fun h=>?_))))
  | fail)
 all_goals refine AI (res1 rfl rfl) rsubZ selZ ⟨rfl,?_⟩
 all_goals first | rw [if_pos (by unfold okEnds; rw [decide_eq_true_eq]; omega)] | rw [if_neg (by unfold okEnds; rw [decide_eq_true_eq]; omega)]

theorem check1_spec (b:Nat) (T:TypeId) (n:Int) (a:Arc):Ans Tryz.prog (.func (.func 95) #[] #[.pointer (some ⟨b,0,none⟩)]) [.agg (encA a).toArray] [sng b (.cells #[int n] T (0,0))] (fun v=>v = .bool (!okArc n a)):=by
 refine spec_in (cap:=[.pointer (some ⟨b,0,none⟩)]) Tryz.func95 rfl rfl Tryz.ntmps95 rfl envZ (fun N β=>?_)
 have hb:rdc (sng b (.cells #[int n] T (0,0))) b 0 = some (int n):=by rw [rdc_sng]; rfl
 unfold encA
 repeat' (first
  | (refine AB ?_)
  | (refine AD ?_)
  | (refine AF ?_)
  | (refine AG ?_)
  | (refine AL ?_)
  | (refine AJ ?_)
  | (refine A9 ?_)
  | (refine AC ?_)
  | (refine AA ?_)
  | (refine AE ?_)
  | (refine AH rfl rfl rfl ?_)
  | (focus ((refine A2 (inside_spec _ _) rfl rfl rdZ rfl rfl ?_; rintro v (⟨rfl,h⟩ | ⟨rfl,h⟩))))
  | (refine CA ?_; rintro _ _ ⟨b,rfl,rfl⟩)
  | (focus ((refine B7 rfl rfl (cmp_eq _ _) rfl rfl (fun h=>?_) (fun h=>?_))))
  | (focus ((refine B7 rfl rfl (cmp_lt _ _) rfl rfl (fun h=>?_) (fun h=>?_))))
  | fail)
 all_goals refine AI (res1 rfl rfl) rsubZ selZ ⟨rfl,?_⟩
 all_goals first
  | (rw [show okArc n a = true from by unfold okArc; rw [decide_eq_true_eq]; omega]; rfl)
  | (rw [show okArc n a = false from by unfold okArc; rw [decide_eq_false_iff_not]; omega]; rfl)

def idxOf {α:Type} (p:α → Bool) (l:List α):Int:=match l.findIdx? p with
 | some i=>i
 | none=>-1
theorem idxOf_ge {α:Type} (p:α → Bool) (l:List α):(0 ≤ idxOf p l ↔ l.any p = true):=by
 unfold idxOf
 cases h:l.findIdx? p with
 | none =>
  rw [List.findIdx?_eq_none_iff] at h
  simp; exact h
 | some i =>
  have:=List.findIdx?_isSome (xs:=l) (p:=p)
  rw [h] at this
  simp at this ⊢
  exact this
theorem indexArc_spec (ρ:PH) (v f:Value) (R1:List PH) (l:List Arc) (p:Arc → Bool) (hv:ArcsAt ρ v l) (hl:l.length ≤ 1000000) (hf:∀ a ∈ l,Ans Tryz.prog f [.agg (encA a).toArray] R1 (fun u=>u = .bool (p a))) :
  Ans Tryz.prog (fv 129) [v,f] (ρ :: R1) (fun u=>u = int (idxOf p l)):=by
 obtain ⟨q,c,rfl,hr⟩:=hv.val encA_len
 refine spec_in (cap:=[]) Tryz.func129 rfl rfl Tryz.ntmps129 rfl envZ (fun N β=>?_)
 refine Adj ?_
 refine BA [0,1,6,7] (0:Nat) (fun k=>k ≤ l.length ∧ ∀ x ∈ l.take k,p x = false) (fun k=>[(8,int k)]) (fun _=>[]) (fun k=>l.length - k) pickZ ⟨by omega,by simp⟩ covZ selZ ?_
 rintro k ⟨hk,hno⟩
 by_cases hlt:k < l.length
 ·have hx:=List.getElem?_eq_getElem hlt
  obtain ⟨b,o,rfl,hA,h0,h1,h2⟩:=arcRow hr hx
  have hfa:=hf l[k] (List.getElem_mem hlt)
  unfold encA at hfa;refine Ab8 ?_;refine Aa7 ?_;refine Aaz ?_;refine Abk ?_
  refine A2 (hfa.rsub (R':=R1) (fun _ h=>h)) rfl rfl ?_ rfl rfl ?_
  ·intro σ hσ; left; simp [hσ]
  rintro u rfl;refine AE ?_
  refine jk_if rfl (fun hp=>?_) (fun hp=>?_)
  ·refine AC ?_
   refine AA ?_;refine AB ?_;refine Aab ?_;refine AI (res1 rfl rfl) ?_ selZ ⟨rfl,?_⟩
   ·intro σ hσ; exact hσ
   ·have:l.findIdx? p = some k:=by
     rw [List.findIdx?_eq_some_iff_getElem]
     refine ⟨hlt,hp,fun j hj=>?_⟩
     have:=hno l[j] (List.mem_take_iff_getElem.2 ⟨j,by omega,rfl⟩)
     simp [this]
    unfold idxOf; rw [this]
  ·refine AK ?_
   refine Aa2 ?_
   refine AY (k + 1) ⟨by omega,fun x hx'=>?_⟩ (by omega) covZ selZ
   rw [List.take_succ_eq_append_getElem hlt] at hx'
   rcases List.mem_append.1 hx' with hx' | hx'
   ·exact hno x hx'
   ·rw [List.mem_singleton.1 hx']; exact hp
 ·refine AC ?_
  refine Ad0 ?_;refine Aal ?_;refine AI (res1 rfl rfl) ?_ selZ ⟨rfl,?_⟩
  ·intro σ hσ; exact hσ
  ·have hkl:k = l.length:=by omega
   subst hkl;rw [List.take_length] at hno
   have:l.findIdx? p = none:=by rw [List.findIdx?_eq_none_iff]; exact hno
   unfold idxOf; rw [this]
theorem containsArc_spec (ρ:PH) (v f:Value) (R1:List PH) (l:List Arc) (p:Arc → Bool) (hv:ArcsAt ρ v l) (hl:l.length ≤ 1000000) (hf:∀ a ∈ l,Ans Tryz.prog f [.agg (encA a).toArray] R1 (fun u=>u = .bool (p a))) :
  Ans Tryz.prog (fv 94) [v,f] (ρ :: R1) (fun u=>u = .bool (l.any p)):=by
 refine spec_in (cap:=[]) Tryz.func94 rfl rfl Tryz.ntmps94 rfl envZ (fun N β=>?_)
 refine Aal ?_;refine Abp ?_;refine A2 (indexArc_spec ρ v f R1 l p hv hl hf) rfl rfl ?_ rfl rfl ?_
 ·intro σ hσ; left; simp at hσ ⊢; right; exact hσ
 rintro u rfl
 have hi:=idxOf_ge p l
 by_cases hc:0 ≤ idxOf p l
 all_goals
  repeat' (first
   | (refine AD ?_)
   | (refine CC ?_)
   | (refine BG ?_)
   | (refine AE ?_)
   | fail)
  refine AI (res1 rfl rfl) (by intro σ hσ; exact hσ) selZ ⟨rfl,?_⟩
 ·rw [hi.1 hc]
 ·have:l.any p = false:=by
   cases h:l.any p with
   | false=>rfl
   | true=>exact absurd (hi.2 h) hc
  rw [this]

theorem check_spec (ρ:PH) (v:Value) (n:Int) (l:List Arc) (hv:ArcsAt ρ v l) (hl:l.length ≤ 1000000) :
  Ans Tryz.prog (fv 56) [int n,v] [ρ] (fun u=>u = int (chk n l)):=by
 obtain ⟨q,c,rfl,hr⟩:=hv.val encA_len
 refine spec_in (cap:=[]) Tryz.func56 rfl rfl Tryz.ntmps56 rfl envZ (fun N β=>?_)
 repeat' (first
  | (refine AB ?_)
  | (refine AD ?_)
  | (refine AF ?_)
  | (refine AL ?_)
  | (refine AJ ?_)
  | (refine AW ?_)
  | (refine BW ?_)
  | (refine AC ?_)
  | (refine AA ?_)
  | (refine AE ?_)
  | (refine AK ?_)
  | (refine AN rfl ?_)
  | (refine AM rfl ?_)
  | (refine AH rfl rfl rfl ?_)
  | (focus ((refine A2 (containsArc_spec ρ _ _ [_] l (fun a=>!okArc n a) hv hl (fun a _=>check1_spec _ _ n a)) rfl rfl rdZ rfl rfl ?_; rintro u rfl)))
  | (refine EB ?_; rintro _ _ ⟨b,rfl,rfl⟩)
  | (focus ((refine B7 rfl rfl (cmp_lt _ _) rfl rfl (fun h=>?_) (fun h=>?_))))
  | (focus ((refine jk_if rfl (fun h=>?_) (fun h=>?_))))
  | fail)
 all_goals refine AI (res1 rfl rfl) rsubZ selZ ⟨rfl,?_⟩
 all_goals unfold chk
 ·rw [if_pos (by omega)]
 ·rw [if_neg (by omega),if_pos (by omega)]
 ·rw [if_neg (by omega),if_pos (by omega)]
 ·rename_i h
  rw [if_neg (by omega),if_neg (by omega),if_neg (fun h2=>?_)]
  simp only [List.all_eq_true,List.any_eq_true,Bool.not_eq_true'] at h h2
  obtain ⟨x,hx,e⟩:=h
  rw [h2 x hx] at e
  simp at e
 ·rename_i h
  rw [if_neg (by omega),if_neg (by omega),if_pos ?_]
  rw [List.all_eq_true];rw [List.any_eq_false] at h
  intro x hx
  simpa using h x hx

end Go.Proofs.YtphehihohghfoaaGreat
/- Results that lie in memory: one struct, or a struct and an error. -/
namespace Go.Eng
variable {L:Env} {R H:List PH}
theorem resS1 {fn:Func} {N:Bs} {M:Nat} {P:Program} {t b1:Nat} {T:TypeId} {v1:List Value} (hr:fn.results = #[.cell t T]) (ht:look L t = some (.pointer (some ⟨b1,0,none⟩))) (a1:aggP P T = some true)
    (n1:szP P T = some v1.length) (c1:Cells N R H b1 0 v1):∀ a w,Frm M L a → Sat N R H w → (results fn a.tmps).run P w = .ok (.agg v1.toArray) w:=by
  intro a w hf hs
  have e1:a.tmps[t]?.getD undef = .pointer (some ⟨b1,0,none⟩):=by simpa using hf.get t _ ht
  have l1:=run_loadCells_list (P:=P) (w:=w) ⟨b1,0,none⟩ v1 (fun j v hv=>by rw [Addr.add_lit]; exact c1 w hs j v hv)
  simp [results,hr,e1,loadVar,run_isAgg a1,run_sizeOf n1,l1,asAddr]
theorem resSE {fn:Func} {N:Bs} {M:Nat} {P:Program} {t u b1:Nat} {T:TypeId} {v1:List Value} {v2:Value} (hr:fn.results = #[.cell t T,.tmp u]) (ht:look L t = some (.pointer (some ⟨b1,0,none⟩))) (hu:look L u = some v2) (a1:aggP P T = some true)
    (n1:szP P T = some v1.length) (c1:Cells N R H b1 0 v1):∀ a w,Frm M L a → Sat N R H w → (results fn a.tmps).run P w = .ok (.tuple #[.agg v1.toArray,v2]) w:=by
  intro a w hf hs
  have e1:a.tmps[t]?.getD undef = .pointer (some ⟨b1,0,none⟩):=by simpa using hf.get t _ ht
  have e2:a.tmps[u]?.getD undef = v2:=by simpa using hf.get u _ hu
  have l1:=run_loadCells_list (P:=P) (w:=w) ⟨b1,0,none⟩ v1 (fun j v hv=>by rw [Addr.add_lit]; exact c1 w hs j v hv)
  simp [results,hr,e1,e2,loadVar,run_isAgg a1,run_sizeOf n1,l1,asAddr]
end Go.Eng
/- The graph, and the numbers of its places. -/
namespace Go.Proofs.YtphehihohghfoaaGreat
open Go.Eng Go.Step
set_option maxRecDepth 100000
set_option maxHeartbeats 4000000

theorem ea_len (qs:List Int) (cs:List Ct) (bs:List Bk) (hs:List Hd) (d:Dm) (h:VOk qs cs bs hs d):(arcsE qs cs bs hs d).length ≤ 1000000:=by
 have:=h.len
 omega
set_option maxHeartbeats 32000000 in
theorem graph_spec {ρ τ σ υ:PH} {pq pc pb ph:Option Addr} {kq kc kb kh:Nat} {qs:List Int} {cs:List Ct} {bs:List Bk} {hs:List Hd} (hT:TbAt ρ τ σ υ pq pc pb ph kq kc kb kh qs cs bs hs) (bw bm kp:Nat) (pl:Option Addr) (χ:PH) (M:List (List Int × Value)) (d:Dm) (h:VOk qs cs bs hs d) (h0:chkB qs cs bs = 0) (hpl:SlE encS 2 χ (.slice pl (placesA d qs.length).length kp) (placesA d qs.length)) (hM:NumAt d qs.length d.r M) :
  Makes Tryz.prog (fv 62) [.pointer (some ⟨bw,0,none⟩)] [sng bw (.cells #[.slice pq qs.length kq,.slice pc cs.length kc,.slice pb bs.length kb,.slice ph hs.length kh,int d.s,int d.d,int d.v,int d.r,int d.e,.slice pl (placesA d qs.length).length kp,.map (some bm)] 134 (0,0)),sng bm (mapS M),χ,ρ,τ,σ,υ] (fun r χ'=>∃ u,r = .agg #[int (vsN qs d),u,int (vtx d d.s d.r),int (vtx d d.d d.e)] ∧ OwnS 141 3 u (arcsG qs cs bs hs d).length ((arcsG qs cs bs hs d).flatMap encA) χ'):=by
 have hdm:=h.dm
 unfold okDm at hdm
 have hnq:=h.nq
 have hMl:=hM.1
 have hl1:=numAt_get hM (n:=d.s) (t:=d.r) (by omega) (by omega) (by omega) (by omega)
 have hl2:=numAt_get hM (n:=d.d) (t:=d.e) (by omega) (by omega) (by omega) (by omega)
 have hit:=fun c1=>arcs_iter hT bw bm c1 kp pl χ M d h h0 hpl hM
 have hEl:=ea_len qs cs bs hs d h
 have hplen:(((placesA d qs.length).length:Nat):Int) = vsN qs d:=placesA_len (d:=d) (by omega) qs.length
 have hone:∀ z n (xs:List Value) (χ:PH),OwnS 141 3 z n xs χ → z.oneCell' = true:=fun z n xs χ h=>by obtain ⟨_,_,rfl⟩:=h.form; rfl
 have w0:rdc (sng bw (.cells #[.slice pq qs.length kq,.slice pc cs.length kc,.slice pb bs.length kb,.slice ph hs.length kh,int d.s,int d.d,int d.v,int d.r,int d.e,.slice pl (placesA d qs.length).length kp,.map (some bm)] 134 (0,0))) bw 0 = some (.slice pq qs.length kq):=by rw [rdc_sng]; rfl
 have w1:rdc (sng bw (.cells #[.slice pq qs.length kq,.slice pc cs.length kc,.slice pb bs.length kb,.slice ph hs.length kh,int d.s,int d.d,int d.v,int d.r,int d.e,.slice pl (placesA d qs.length).length kp,.map (some bm)] 134 (0,0))) bw 1 = some (.slice pc cs.length kc):=by rw [rdc_sng]; rfl
 have w2:rdc (sng bw (.cells #[.slice pq qs.length kq,.slice pc cs.length kc,.slice pb bs.length kb,.slice ph hs.length kh,int d.s,int d.d,int d.v,int d.r,int d.e,.slice pl (placesA d qs.length).length kp,.map (some bm)] 134 (0,0))) bw 2 = some (.slice pb bs.length kb):=by rw [rdc_sng]; rfl
 have w3:rdc (sng bw (.cells #[.slice pq qs.length kq,.slice pc cs.length kc,.slice pb bs.length kb,.slice ph hs.length kh,int d.s,int d.d,int d.v,int d.r,int d.e,.slice pl (placesA d qs.length).length kp,.map (some bm)] 134 (0,0))) bw 3 = some (.slice ph hs.length kh):=by rw [rdc_sng]; rfl
 have w4:rdc (sng bw (.cells #[.slice pq qs.length kq,.slice pc cs.length kc,.slice pb bs.length kb,.slice ph hs.length kh,int d.s,int d.d,int d.v,int d.r,int d.e,.slice pl (placesA d qs.length).length kp,.map (some bm)] 134 (0,0))) bw 4 = some (int d.s):=by rw [rdc_sng]; rfl
 have w5:rdc (sng bw (.cells #[.slice pq qs.length kq,.slice pc cs.length kc,.slice pb bs.length kb,.slice ph hs.length kh,int d.s,int d.d,int d.v,int d.r,int d.e,.slice pl (placesA d qs.length).length kp,.map (some bm)] 134 (0,0))) bw 5 = some (int d.d):=by rw [rdc_sng]; rfl
 have w6:rdc (sng bw (.cells #[.slice pq qs.length kq,.slice pc cs.length kc,.slice pb bs.length kb,.slice ph hs.length kh,int d.s,int d.d,int d.v,int d.r,int d.e,.slice pl (placesA d qs.length).length kp,.map (some bm)] 134 (0,0))) bw 6 = some (int d.v):=by rw [rdc_sng]; rfl
 have w7:rdc (sng bw (.cells #[.slice pq qs.length kq,.slice pc cs.length kc,.slice pb bs.length kb,.slice ph hs.length kh,int d.s,int d.d,int d.v,int d.r,int d.e,.slice pl (placesA d qs.length).length kp,.map (some bm)] 134 (0,0))) bw 7 = some (int d.r):=by rw [rdc_sng]; rfl
 have w8:rdc (sng bw (.cells #[.slice pq qs.length kq,.slice pc cs.length kc,.slice pb bs.length kb,.slice ph hs.length kh,int d.s,int d.d,int d.v,int d.r,int d.e,.slice pl (placesA d qs.length).length kp,.map (some bm)] 134 (0,0))) bw 8 = some (int d.e):=by rw [rdc_sng]; rfl
 have w9:rdc (sng bw (.cells #[.slice pq qs.length kq,.slice pc cs.length kc,.slice pb bs.length kb,.slice ph hs.length kh,int d.s,int d.d,int d.v,int d.r,int d.e,.slice pl (placesA d qs.length).length kp,.map (some bm)] 134 (0,0))) bw 9 = some (.slice pl (placesA d qs.length).length kp):=by rw [rdc_sng]; rfl
 have w10:rdc (sng bw (.cells #[.slice pq qs.length kq,.slice pc cs.length kc,.slice pb bs.length kb,.slice ph hs.length kh,int d.s,int d.d,int d.v,int d.r,int d.e,.slice pl (placesA d qs.length).length kp,.map (some bm)] 134 (0,0))) bw 10 = some (.map (some bm)):=by rw [rdc_sng]; rfl
 have wp:RdP (sng bw (.cells #[.slice pq qs.length kq,.slice pc cs.length kc,.slice pb bs.length kb,.slice ph hs.length kh,int d.s,int d.d,int d.v,int d.r,int d.e,.slice pl (placesA d qs.length).length kp,.map (some bm)] 134 (0,0))) bw 0 [.slice pq qs.length kq,.slice pc cs.length kc]:=rdP_sng (xs:=[.slice pq qs.length kq,.slice pc cs.length kc,.slice pb bs.length kb,.slice ph hs.length kh,int d.s,int d.d,int d.v,int d.r,int d.e,.slice pl (placesA d qs.length).length kp,.map (some bm)]) rfl
 refine spec_in (cap:=[]) Tryz.func62 rfl rfl Tryz.ntmps62 rfl envZ (fun N β=>?_)
 refine BX ?_;refine Aa ?_;refine AX ?_; rintro _ _ ⟨b,rfl,rfl⟩;refine Aaj ?_
 revert b; intro b2
 refine E9 (X:=Nat) [0,2] (fun _=>True) (fun x=>[(3,.pointer (some ⟨x,0,none⟩))]) (fun x=>[sng x (.cells #[int (vsN qs d),.slice none 0 0,int (vtx d d.s d.r),int (vtx d d.d d.e)] 69 (0,0)),sng b2 (.cells #[int 0,.slice none 0 0,int 0,int 0] 69 (0,0)),emp]) pickZ ?_ ?_
 ·refine A5 (.q 0 (.q 1 (.q 2 (.q 3 (.q 4 (.q 5 (.q 6 (.q 7 (.q 8 (.q 9 (.q 10 (.q 11 (.q 12 (.q 13 (.q 14 (.q 15 (.q 16 (.q 17 (.q 18 (.q 19 (.q 20 (.q 21 (.q 22 (.q 23 (.q 24 (.q 25 (.q 26 (.q 27 (.q 28 (.q 29 (.q 30 (.q 31 (.q 32 (.q 33 (.q 34 (.q 35 (.q 36 (.q 37 (.l 38 .e (.l 39 .b .nil)))))))))))))))))))))))))))))))))))))))) [] rfl (by kernel_rfl) Sel.nil ?_
  repeat' (first
   | (refine AS ?_)
   | (refine AQ ?_)
   | (refine AU ?_)
   | (refine B6 ?_)
   | (refine CB ?_)
   | (refine DX ?_)
   | (refine A0 ?_)
   | (refine CQ ?_)
   | (focus ((refine' CT rfl _ rfl rfl rfl rfl _; rotate_left; (focus (first | exact CO 2 [d.s,d.r] rfl rfl rfl ⟨by kernel_rfl,by kernel_rfl⟩ rfl hMl rfl hl1 (mapAtS_rd memZ) | exact CO 2 [d.d,d.e] rfl rfl rfl ⟨by kernel_rfl,by kernel_rfl⟩ rfl hMl rfl hl2 (mapAtS_rd memZ))))))
   | (focus ((refine CP ?_; refine' FX rfl _ rfl rfl _ _; rotate_left; (focus (apply C6; exact rfl; exact rfl; exact takeZ; exact (by (repeat (first | exact (fun v hv=>absurd hv List.not_mem_nil) | (refine List.forall_mem_cons.2 ⟨?_,?_⟩; (focus (first | exact rfl | assumption))))); first | done | fail); exact rfl; exact rfl)); (focus (rintro _ _ ⟨_,rfl⟩ w hw; exact hw.sel Sel.nil)); rintro _ _ ⟨rfl,rfl⟩)))
   | (refine A6 ?_)
   | (refine C9 ?_; rintro _ _ ⟨b,rfl,rfl⟩)
   | fail)
  all_goals (rw [hplen]; refine D0 _ trivial covZ selZ)
 rintro b3 _;refine Aam ?_
 refine BE (arcs_spec bw) rfl rfl Takes.nil (fun τ hτ=>by simp at hτ) rfl rfl ?_
 rintro _ _ ⟨c1,rfl,rfl⟩;refine AR (ρ:=sng c1 _) takeZ ?_;refine AE ?_;refine AP ?_
 refine CW (gf:=102) (cap:=[.pointer (some ⟨c1,0,none⟩)]) (ps:=[45]) (X:=Value × PH) rfl Tryz.func102 rfl rfl
  (hit c1) ?_
  (fun i x=>OwnS 141 3 x.1 ((arcsE qs cs bs hs d).take i).length (((arcsE qs cs bs hs d).take i).flatMap (fun e=>encA e.a)) x.2)
  (fun x=>[sng b3 (.cells #[int (vsN qs d),x.1,int (vtx d d.s d.r),int (vtx d d.d d.e)] 69 (0,0)),sng b2 (.cells #[int 0,.slice none 0 0,int 0,int 0] 69 (0,0)),x.2]) (fun _ _=>False) (.slice none 0 0,emp) rfl takesZ (OwnS.nil _ _) ?_ ?_ ?_
 ·intro σ' hσ
  simp only [List.mem_cons,List.not_mem_nil,or_false] at hσ ⊢
  rcases hσ with h | h | h | h | h | h | h | h <;> simp [h]
 ·rintro lo r i ⟨u,σ1⟩ vs hvs hO hps has hbd hst hpe hfr
  obtain ⟨st,pe,fnn,tm,prm,asg,bdy,df⟩:=r
  simp only at hps has hbd hst hpe hfr;subst hps has hbd hst hpe;rw [List.getElem?_map] at hvs
  obtain ⟨x,hx,rfl⟩:=Option.map_eq_some_iff.1 hvs
  dsimp only at hO
  have hti:((arcsE qs cs bs hs d).take (i + 1)) = (arcsE qs cs bs hs d).take i ++ [x]:=by
   rw [List.take_add_one,hx]; rfl
  have hil:((arcsE qs cs bs hs d).take i).length ≤ 1000000:=by rw [List.length_take]; omega
  simp only [hti]
  generalize (arcsE qs cs bs hs d).take i = O at hO hil
  have hu1:=hone _ _ _ _ hO
  refine yield_spec hfr rfl (by intro p hp; simp at hp; omega) putiZ (fun N' β'=>?_)
  dsimp only
  refine AA ?_;refine AX ?_; rintro _ _ ⟨b,rfl,rfl⟩;refine AV ?_; rintro _ _ ⟨rfl,rfl⟩;refine Aee ?_;refine CV takeZ rfl ?_
  revert b; intro bx
  refine AR (ρ:=sng bx _) takeZ ?_
  have px:RdP (sng bx (.cells #[int x.a.f,int x.a.t,int x.a.c,int x.c,int x.t] 150 (0,0))) bx 0 [int x.a.f,int x.a.t,int x.a.c]:=rdP_sng (xs:=[int x.a.f,int x.a.t,int x.a.c,int x.c,int x.t]) rfl
  refine AP ?_;refine AA ?_;refine Aac ?_;refine AG ?_;refine AT ?_;refine BI ?_; rintro _ _ ⟨b,rfl,rfl⟩
  refine BH (B5 (by_:=24) (s:=3) (news:=[int x.a.f,int x.a.t,int x.a.c]) rfl rfl rfl rfl rfl rfl rfl hO takeZ (cells_own memZ) rfl (by (repeat (first | exact (fun v hv=>absurd hv List.not_mem_nil) | (refine List.forall_mem_cons.2 ⟨?_,?_⟩; (focus (first | exact rfl | assumption))))); first | done | fail) (by omega) (by simp only [maxLen]; omega) (by omega)) rfl rfl rfl ?_
  rintro u1 _ ⟨σ2,hO1,rfl⟩
  have hu2:=hone _ _ _ _ hO1
  refine AG ?_;refine BD ?_; rintro _ _ ⟨rfl,rfl⟩;refine Aeb ?_;refine BP takeZ rsubZ selZ ⟨(u1,σ2),.inl ⟨rfl,?_,rfl⟩⟩
  dsimp only
  rw [List.length_append,List.flatMap_append];exact hO1
 ·rintro b9 ⟨u,σ1⟩ hO
  rw [List.length_map,List.take_length] at hO
  dsimp only at hO
  have hO2:OwnS 141 3 u (arcsG qs cs bs hs d).length ((arcsG qs cs bs hs d).flatMap encA) σ1:=by
   unfold arcsG;rw [List.length_map,List.flatMap_map];exact hO
  have hu1:=hone _ _ _ _ hO2
  refine A3 ?_;refine Abm ?_;refine AV ?_; rintro _ _ ⟨rfl,rfl⟩;refine AE ?_;refine D5 (v:=.agg #[int (vsN qs d),u,int (vtx d d.s d.r),int (vtx d d.d d.e)]) (Marks.cons (.there .here) .nil) ?_ rsubZ ?_ ⟨σ1,⟨u,rfl,hO2⟩,rfl⟩
  ·exact resS1 (b1:=b2) (T:=69) (v1:=[int (vsN qs d),u,int (vtx d d.s d.r),int (vtx d d.d d.e)]) rfl rfl rfl rfl (cells_own memZ)
  ·exact selZ
 ·rintro _ _ _ h; exact h.elim
set_option maxHeartbeats 16000000 in
theorem Graph_spec {ρ τ σ υ:PH} {pq pc pb ph:Option Addr} {kq kc kb kh:Nat} {qs:List Int} {cs:List Ct} {bs:List Bk} {hs:List Hd} (hT:TbAt ρ τ σ υ pq pc pb ph kq kc kb kh qs cs bs hs) (d:Dm) :
  Makes Tryz.prog (fv 39) [.agg #[.slice pq qs.length kq,.slice pc cs.length kc,.slice pb bs.length kb,.slice ph hs.length kh],.agg #[int d.s,int d.d,int d.v,int d.r,int d.e]] [ρ,τ,σ,υ] (fun r χ'=>if validT qs cs bs hs d = true then ∃ u,r = .tuple #[.agg #[int (vsN qs d),u,int (vtx d d.s d.r),int (vtx d d.d d.e)],int 0] ∧ OwnS 141 3 u (arcsG qs cs bs hs d).length ((arcsG qs cs bs hs d).flatMap encA) χ' else r = .tuple #[.agg #[int 0,.slice none 0 0,int 0,int 0],int 1] ∧ χ' = emp):=by
 refine spec_in (cap:=[]) Tryz.func39 rfl rfl Tryz.ntmps39 rfl envZ (fun N β=>?_)
 refine Aa ?_;refine BH (BK rfl) rfl rfl rfl ?_;rintro _ _ ⟨b1,rfl,rfl⟩;refine AR (ρ:=sng b1 _) takeZ ?_
 have ct:=rdB b1 29 [.slice pq qs.length kq,.slice pc cs.length kc,.slice pb bs.length kb,.slice ph hs.length kh]
 have ct0:=rdC ct 0
 have ct1:=rdC ct 1
 have ct2:=rdC ct 2
 have ct3:=rdC ct 3
 have ctp:RdP (sng b1 (.cells #[.slice pq qs.length kq,.slice pc cs.length kc,.slice pb bs.length kb,.slice ph hs.length kh] 29 (0,0))) b1 0 [.slice pq qs.length kq,.slice pc cs.length kc]:=rdP_sng (xs:=[.slice pq qs.length kq,.slice pc cs.length kc,.slice pb bs.length kb,.slice ph hs.length kh]) rfl
 refine BH (BK rfl) rfl rfl rfl ?_;rintro _ _ ⟨b2,rfl,rfl⟩;refine AR (ρ:=sng b2 _) takeZ ?_
 have cd:=rdB b2 31 [int d.s,int d.d,int d.v,int d.r,int d.e]
 have cd0:=rdC cd 0
 have cd1:=rdC cd 1
 have cd2:=rdC cd 2
 have cd3:=rdC cd 3
 have cd4:=rdC cd 4
 refine BX ?_;refine AX ?_; rintro _ _ ⟨b,rfl,rfl⟩;refine Aab ?_;refine Ab0 ?_
 revert b; intro b4
 refine BE (build_spec hT d) rfl rfl Takes.nil rdZ rfl rfl ?_;rintro _ H' (⟨hv,rfl,rfl⟩ | ⟨hv,bw,bm,pl0,χ,M,rfl,rfl,hO,hM⟩)
 ·refine AB ?_
  refine Aa3 ?_;refine Aan ?_;refine Aam ?_;refine Ac2 ?_;refine Aa ?_;refine BO ?_;refine AV ?_; rintro _ _ ⟨rfl,rfl⟩;refine Aab ?_
  exact AI (resSE (b1:=b4) (T:=69) (v1:=[int 0,.slice none 0 0,int 0,int 0]) rfl rfl rfl rfl rfl (cells_own memZ)) rsubZ selZ ⟨emp,by dsimp only; rw [if_neg (by simp [hv])]; exact ⟨rfl,rfl⟩,rfl⟩
 have h:=vok hv
 have h0:=vokB hv
 have hdm:=h.dm
 unfold okDm at hdm
 have hnq:=h.nq
 obtain ⟨pl,kp,rfl⟩:=hO.form
 have hpl:SlE encS 2 χ (.slice pl (placesA d qs.length).length kp) (placesA d qs.length):=hO.at
 refine AR (ρ:=sng bw _) takeZ ?_;refine AR (ρ:=sng bm _) takeZ ?_;refine AR (ρ:=χ) takeZ ?_
 have w0:rdc (sng bw (.cells #[.slice pq qs.length kq,.slice pc cs.length kc,.slice pb bs.length kb,.slice ph hs.length kh,int d.s,int d.d,int d.v,int d.r,int d.e,.slice pl (placesA d qs.length).length kp,.map (some bm)] 134 (0,0))) bw 0 = some (.slice pq qs.length kq):=by rw [rdc_sng]; rfl
 have w1:rdc (sng bw (.cells #[.slice pq qs.length kq,.slice pc cs.length kc,.slice pb bs.length kb,.slice ph hs.length kh,int d.s,int d.d,int d.v,int d.r,int d.e,.slice pl (placesA d qs.length).length kp,.map (some bm)] 134 (0,0))) bw 1 = some (.slice pc cs.length kc):=by rw [rdc_sng]; rfl
 have w2:rdc (sng bw (.cells #[.slice pq qs.length kq,.slice pc cs.length kc,.slice pb bs.length kb,.slice ph hs.length kh,int d.s,int d.d,int d.v,int d.r,int d.e,.slice pl (placesA d qs.length).length kp,.map (some bm)] 134 (0,0))) bw 2 = some (.slice pb bs.length kb):=by rw [rdc_sng]; rfl
 have w3:rdc (sng bw (.cells #[.slice pq qs.length kq,.slice pc cs.length kc,.slice pb bs.length kb,.slice ph hs.length kh,int d.s,int d.d,int d.v,int d.r,int d.e,.slice pl (placesA d qs.length).length kp,.map (some bm)] 134 (0,0))) bw 3 = some (.slice ph hs.length kh):=by rw [rdc_sng]; rfl
 have w4:rdc (sng bw (.cells #[.slice pq qs.length kq,.slice pc cs.length kc,.slice pb bs.length kb,.slice ph hs.length kh,int d.s,int d.d,int d.v,int d.r,int d.e,.slice pl (placesA d qs.length).length kp,.map (some bm)] 134 (0,0))) bw 4 = some (int d.s):=by rw [rdc_sng]; rfl
 have w5:rdc (sng bw (.cells #[.slice pq qs.length kq,.slice pc cs.length kc,.slice pb bs.length kb,.slice ph hs.length kh,int d.s,int d.d,int d.v,int d.r,int d.e,.slice pl (placesA d qs.length).length kp,.map (some bm)] 134 (0,0))) bw 5 = some (int d.d):=by rw [rdc_sng]; rfl
 have w6:rdc (sng bw (.cells #[.slice pq qs.length kq,.slice pc cs.length kc,.slice pb bs.length kb,.slice ph hs.length kh,int d.s,int d.d,int d.v,int d.r,int d.e,.slice pl (placesA d qs.length).length kp,.map (some bm)] 134 (0,0))) bw 6 = some (int d.v):=by rw [rdc_sng]; rfl
 have w7:rdc (sng bw (.cells #[.slice pq qs.length kq,.slice pc cs.length kc,.slice pb bs.length kb,.slice ph hs.length kh,int d.s,int d.d,int d.v,int d.r,int d.e,.slice pl (placesA d qs.length).length kp,.map (some bm)] 134 (0,0))) bw 7 = some (int d.r):=by rw [rdc_sng]; rfl
 have w8:rdc (sng bw (.cells #[.slice pq qs.length kq,.slice pc cs.length kc,.slice pb bs.length kb,.slice ph hs.length kh,int d.s,int d.d,int d.v,int d.r,int d.e,.slice pl (placesA d qs.length).length kp,.map (some bm)] 134 (0,0))) bw 8 = some (int d.e):=by rw [rdc_sng]; rfl
 have w9:rdc (sng bw (.cells #[.slice pq qs.length kq,.slice pc cs.length kc,.slice pb bs.length kb,.slice ph hs.length kh,int d.s,int d.d,int d.v,int d.r,int d.e,.slice pl (placesA d qs.length).length kp,.map (some bm)] 134 (0,0))) bw 9 = some (.slice pl (placesA d qs.length).length kp):=by rw [rdc_sng]; rfl
 have w10:rdc (sng bw (.cells #[.slice pq qs.length kq,.slice pc cs.length kc,.slice pb bs.length kb,.slice ph hs.length kh,int d.s,int d.d,int d.v,int d.r,int d.e,.slice pl (placesA d qs.length).length kp,.map (some bm)] 134 (0,0))) bw 10 = some (.map (some bm)):=by rw [rdc_sng]; rfl
 have hg:=graph_spec hT bw bm kp pl χ M d h h0 hpl hM
 refine Aem ?_;refine Aad ?_;refine BZ hg rfl rfl rdZ rfl rfl ?_;rintro _ σ1 ⟨u,rfl,hO1⟩
 have hu1:u.oneCell' = true:=by obtain ⟨_,_,rfl⟩:=hO1.form; rfl
 refine AV ?_; rintro _ _ ⟨rfl,rfl⟩;refine Aab ?_
 exact AI (resSE (b1:=b4) (T:=69) (v1:=[int (vsN qs d),u,int (vtx d d.s d.r),int (vtx d d.d d.e)]) rfl rfl rfl rfl rfl (cells_own memZ)) rsubZ selZ ⟨σ1,by dsimp only; rw [if_pos hv]; exact ⟨u,rfl,hO1⟩,rfl⟩
def vertexR (qs:List Int) (cs:List Ct) (bs:List Bk) (hs:List Hd) (d:Dm) (n t:Int):Int × Int:=
 if validT qs cs bs hs d = true then (if (0 ≤ n ∧ n < qs.length) ∧ d.r ≤ t ∧ t ≤ d.e then (vtx d n t,0) else (0,2)) else (0,1)
set_option maxHeartbeats 16000000 in
theorem Vertex_spec {ρ τ σ υ:PH} {pq pc pb ph:Option Addr} {kq kc kb kh:Nat} {qs:List Int} {cs:List Ct} {bs:List Bk} {hs:List Hd} (hT:TbAt ρ τ σ υ pq pc pb ph kq kc kb kh qs cs bs hs) (d:Dm) (n t:Int) :
  Ans Tryz.prog (fv 42) [.agg #[.slice pq qs.length kq,.slice pc cs.length kc,.slice pb bs.length kb,.slice ph hs.length kh],.agg #[int d.s,int d.d,int d.v,int d.r,int d.e],int n,int t] [ρ,τ,σ,υ] (fun r=>r = .tuple #[int (vertexR qs cs bs hs d n t).1,int (vertexR qs cs bs hs d n t).2]):=by
 unfold vertexR
 refine spec_in (cap:=[]) Tryz.func42 rfl rfl Tryz.ntmps42 rfl envZ (fun N β=>?_)
 refine Aa ?_;refine BH (BK rfl) rfl rfl rfl ?_;rintro _ _ ⟨b1,rfl,rfl⟩;refine AR (ρ:=sng b1 _) takeZ ?_
 have ct:=rdB b1 29 [.slice pq qs.length kq,.slice pc cs.length kc,.slice pb bs.length kb,.slice ph hs.length kh]
 have ct0:=rdC ct 0
 have ct1:=rdC ct 1
 have ct2:=rdC ct 2
 have ct3:=rdC ct 3
 have ctp:RdP (sng b1 (.cells #[.slice pq qs.length kq,.slice pc cs.length kc,.slice pb bs.length kb,.slice ph hs.length kh] 29 (0,0))) b1 0 [.slice pq qs.length kq,.slice pc cs.length kc]:=rdP_sng (xs:=[.slice pq qs.length kq,.slice pc cs.length kc,.slice pb bs.length kb,.slice ph hs.length kh]) rfl
 refine BH (BK rfl) rfl rfl rfl ?_;rintro _ _ ⟨b2,rfl,rfl⟩;refine AR (ρ:=sng b2 _) takeZ ?_
 have cd:=rdB b2 31 [int d.s,int d.d,int d.v,int d.r,int d.e]
 have cd0:=rdC cd 0
 have cd1:=rdC cd 1
 have cd2:=rdC cd 2
 have cd3:=rdC cd 3
 have cd4:=rdC cd 4
 refine Aan ?_;refine Ab0 ?_;refine BE (build_spec hT d) rfl rfl Takes.nil rdZ rfl rfl ?_;rintro _ H' (⟨hv,rfl,rfl⟩ | ⟨hv,bw,bm,pl0,χ,M,rfl,rfl,hO,hM⟩)
 ·rw [if_neg (by simp [hv])]
  refine Ab7 ?_;refine Ac2 ?_;refine Acc ?_;exact AI (res2 rfl rfl rfl) rsubZ selZ ⟨rfl,rfl⟩
 rw [if_pos hv]
 have h:=vok hv
 have h0:=vokB hv
 have hdm:=h.dm
 unfold okDm at hdm
 have hnq:=h.nq
 obtain ⟨pl,kp,rfl⟩:=hO.form
 have hpl:SlE encS 2 χ (.slice pl (placesA d qs.length).length kp) (placesA d qs.length):=hO.at
 refine AR (ρ:=sng bw _) takeZ ?_;refine AR (ρ:=sng bm _) takeZ ?_;refine AR (ρ:=χ) takeZ ?_
 have w0:rdc (sng bw (.cells #[.slice pq qs.length kq,.slice pc cs.length kc,.slice pb bs.length kb,.slice ph hs.length kh,int d.s,int d.d,int d.v,int d.r,int d.e,.slice pl (placesA d qs.length).length kp,.map (some bm)] 134 (0,0))) bw 0 = some (.slice pq qs.length kq):=by rw [rdc_sng]; rfl
 have w1:rdc (sng bw (.cells #[.slice pq qs.length kq,.slice pc cs.length kc,.slice pb bs.length kb,.slice ph hs.length kh,int d.s,int d.d,int d.v,int d.r,int d.e,.slice pl (placesA d qs.length).length kp,.map (some bm)] 134 (0,0))) bw 1 = some (.slice pc cs.length kc):=by rw [rdc_sng]; rfl
 have w2:rdc (sng bw (.cells #[.slice pq qs.length kq,.slice pc cs.length kc,.slice pb bs.length kb,.slice ph hs.length kh,int d.s,int d.d,int d.v,int d.r,int d.e,.slice pl (placesA d qs.length).length kp,.map (some bm)] 134 (0,0))) bw 2 = some (.slice pb bs.length kb):=by rw [rdc_sng]; rfl
 have w3:rdc (sng bw (.cells #[.slice pq qs.length kq,.slice pc cs.length kc,.slice pb bs.length kb,.slice ph hs.length kh,int d.s,int d.d,int d.v,int d.r,int d.e,.slice pl (placesA d qs.length).length kp,.map (some bm)] 134 (0,0))) bw 3 = some (.slice ph hs.length kh):=by rw [rdc_sng]; rfl
 have w4:rdc (sng bw (.cells #[.slice pq qs.length kq,.slice pc cs.length kc,.slice pb bs.length kb,.slice ph hs.length kh,int d.s,int d.d,int d.v,int d.r,int d.e,.slice pl (placesA d qs.length).length kp,.map (some bm)] 134 (0,0))) bw 4 = some (int d.s):=by rw [rdc_sng]; rfl
 have w5:rdc (sng bw (.cells #[.slice pq qs.length kq,.slice pc cs.length kc,.slice pb bs.length kb,.slice ph hs.length kh,int d.s,int d.d,int d.v,int d.r,int d.e,.slice pl (placesA d qs.length).length kp,.map (some bm)] 134 (0,0))) bw 5 = some (int d.d):=by rw [rdc_sng]; rfl
 have w6:rdc (sng bw (.cells #[.slice pq qs.length kq,.slice pc cs.length kc,.slice pb bs.length kb,.slice ph hs.length kh,int d.s,int d.d,int d.v,int d.r,int d.e,.slice pl (placesA d qs.length).length kp,.map (some bm)] 134 (0,0))) bw 6 = some (int d.v):=by rw [rdc_sng]; rfl
 have w7:rdc (sng bw (.cells #[.slice pq qs.length kq,.slice pc cs.length kc,.slice pb bs.length kb,.slice ph hs.length kh,int d.s,int d.d,int d.v,int d.r,int d.e,.slice pl (placesA d qs.length).length kp,.map (some bm)] 134 (0,0))) bw 7 = some (int d.r):=by rw [rdc_sng]; rfl
 have w8:rdc (sng bw (.cells #[.slice pq qs.length kq,.slice pc cs.length kc,.slice pb bs.length kb,.slice ph hs.length kh,int d.s,int d.d,int d.v,int d.r,int d.e,.slice pl (placesA d qs.length).length kp,.map (some bm)] 134 (0,0))) bw 8 = some (int d.e):=by rw [rdc_sng]; rfl
 have w9:rdc (sng bw (.cells #[.slice pq qs.length kq,.slice pc cs.length kc,.slice pb bs.length kb,.slice ph hs.length kh,int d.s,int d.d,int d.v,int d.r,int d.e,.slice pl (placesA d qs.length).length kp,.map (some bm)] 134 (0,0))) bw 9 = some (.slice pl (placesA d qs.length).length kp):=by rw [rdc_sng]; rfl
 have w10:rdc (sng bw (.cells #[.slice pq qs.length kq,.slice pc cs.length kc,.slice pb bs.length kb,.slice ph hs.length kh,int d.s,int d.d,int d.v,int d.r,int d.e,.slice pl (placesA d qs.length).length kp,.map (some bm)] 134 (0,0))) bw 10 = some (.map (some bm)):=by rw [rdc_sng]; rfl
 have hMl:=hM.1
 have hMg:=hM.2 n t
 by_cases hc:(0 ≤ n ∧ n < qs.length) ∧ d.r ≤ t ∧ t ≤ d.e
 ·rw [if_pos (by omega)] at hMg
  rw [if_pos hc];refine Aem ?_;refine Aad ?_;refine Adi ?_;refine Aaz ?_;refine BO ?_
  focus ((refine CD (DZ 2 [n,t] rfl rfl rfl ⟨by kernel_rfl,by kernel_rfl⟩ rfl hMl rfl (mapAtS_rd memZ)) rfl rfl rfl ?_; rw [hMg]))
  refine Aem ?_;refine Adn ?_;exact AI (res2 rfl rfl rfl) rsubZ selZ ⟨rfl,rfl⟩
 ·rw [if_neg (by omega)] at hMg
  rw [if_neg hc];refine Aem ?_;refine Aad ?_;refine Adi ?_;refine Aaz ?_;refine BO ?_
  focus ((refine CD (DZ 2 [n,t] rfl rfl rfl ⟨by kernel_rfl,by kernel_rfl⟩ rfl hMl rfl (mapAtS_rd memZ)) rfl rfl rfl ?_; rw [hMg]))
  refine Ab7 ?_;refine Ac2 ?_;refine Acc ?_;exact AI (res2 rfl rfl rfl) rsubZ selZ ⟨rfl,rfl⟩
end Go.Proofs.YtphehihohghfoaaGreat
/- Values of flows, capacities of cuts, equal lists: what the functions answer. -/
namespace Go.Proofs.YtphehihohghfoaaGreat
open Go.Eng Go.Flow
set_option maxRecDepth 100000
set_option maxHeartbeats 4000000

theorem value_spec (ρ σ:PH) (v u:Value) (s:Int) (l:List Arc) (fl:List Int) (hv:ArcsAt ρ v l) (hu:IntsAt σ u fl) (hl:l.length ≤ 20000) (hfl:fl.length = l.length) (hs:small fl) :
  Ans Tryz.prog (fv 88) [v,u,int s] [ρ,σ] (fun r=>r = int (fval s l fl)):=by
 obtain ⟨q,c,rfl,hr⟩:=hv.val encA_len
 obtain ⟨q2,c2,rfl,hr2⟩:=hu.val Eng.encI_len
 refine spec_in (cap:=[]) Tryz.func88 rfl rfl Tryz.ntmps88 rfl envZ (fun N β=>?_)
 refine Aal ?_;refine Adj ?_
 refine BA [0,1,2,10,11] ((0,0):Nat × Int) (fun x=>x.1 ≤ l.length ∧ x.2 = fval s (l.take x.1) (fl.take x.1)) (fun x=>[(7,int x.2),(12,int x.1)]) (fun _=>[]) (fun x=>l.length - x.1) pickZ ⟨by simp,by simp [fval]⟩ covZ selZ ?_
 rintro ⟨k,y⟩ ⟨hk,hy⟩;simp only at hk hy
 by_cases hlt:k < l.length
 ·have hx:=List.getElem?_eq_getElem hlt
  obtain ⟨b,o,rfl,hA,h0,h1,h2⟩:=arcRow hr hx
  have hx2:=List.getElem?_eq_getElem (show k < fl.length by omega)
  obtain ⟨b2,o2,rfl,g0⟩:=hr2.int hx2
  have hbd:=fval_bd s (l.take k) (fl.take k) (small_take hs k)
  have hlen:(fl.take k).length = k:=by simp; omega
  rw [← hy,hlen] at hbd
  have hx3:=hs fl[k] (List.getElem_mem _)
  have hstep:fval s (l.take (k + 1)) (fl.take (k + 1)) = y + ((if l[k].f = s then fl[k] else 0) - (if l[k].t = s then fl[k] else 0)):=by
   rw [take_snoc' hlt,take_snoc' (show k < fl.length by omega),fval_snoc _ _ _ _ _ (by simp; omega),hy]
  repeat' (first
   | (refine AB ?_)
   | (refine AD ?_)
   | (refine AF ?_)
   | (refine AG ?_)
   | (refine BQ ?_)
   | (refine BB ?_)
   | (refine A8 ?_)
   | (refine BC ?_)
   | (refine CK ?_)
   | (refine CY ?_)
   | (refine AT ?_)
   | (refine AC ?_)
   | (refine AA ?_)
   | (refine AE ?_)
   | (refine AP ?_)
   | (refine A3 ?_)
   | (refine AK ?_)
   | (refine AN rfl ?_)
   | (refine AM rfl ?_)
   | (refine AX ?_; rintro _ _ ⟨b,rfl,rfl⟩)
   | (refine AV ?_; rintro _ _ ⟨rfl,rfl⟩)
   | (focus ((refine B7 rfl rfl (cmp_eq _ _) rfl rfl (fun h=>?_) (fun h=>?_))))
   | fail)
  all_goals refine AY (k + 1,_) ⟨by simp only; omega,?_⟩ (by simp only; omega) covZ selZ
  all_goals simp only
  all_goals rw [hstep]
  all_goals (repeat (first | rw [if_pos (by assumption)] | rw [if_neg (by assumption)]))
  all_goals omega
 ·refine AC ?_
  refine Ad0 ?_;refine Abt ?_;refine AI (res1 rfl rfl) rsubZ selZ ⟨rfl,?_⟩
  rw [hy,List.take_of_length_le (by omega),List.take_of_length_le (by omega)]

theorem capacity_spec (ρ:PH) (v:Value) (n b cp:Nat) (T:TypeId) (l:List Arc) (m:List Bool) (hv:ArcsAt ρ v l) (hl:l.length ≤ 20000) (hok:∀ a ∈ l,okArc n a = true) (hm:m.length = n) :
  Ans Tryz.prog (fv 60) [v,.slice (some ⟨b,0,none⟩) n cp] [ρ,sng b (.cells (bools m) T (0,0))] (fun r=>r = int (capOf (fun j=>m.getD j false) l)):=by
 obtain ⟨q,c,rfl,hr⟩:=hv.val encA_len
 refine spec_in (cap:=[]) Tryz.func60 rfl rfl Tryz.ntmps60 rfl envZ (fun N β=>?_)
 refine Aal ?_;refine Adj ?_
 refine BA [0,1,8,9] ((0,0):Nat × Int) (fun x=>x.1 ≤ l.length ∧ x.2 = capOf (fun j=>m.getD j false) (l.take x.1)) (fun x=>[(5,int x.2),(10,int x.1)]) (fun _=>[]) (fun x=>l.length - x.1) pickZ ⟨by simp,by simp [capOf]⟩ covZ selZ ?_
 rintro ⟨k,y⟩ ⟨hk,hy⟩;simp only at hk hy
 by_cases hlt:k < l.length
 ·have hx:=List.getElem?_eq_getElem hlt
  obtain ⟨b',o,rfl,hA,h0,h1,h2⟩:=arcRow hr hx
  have hbd:=capOf_bd n (fun j=>m.getD j false) (l.take k) (fun a ha=>hok a (List.mem_of_mem_take ha))
  have hlen:(l.take k).length = k:=by simp; omega
  rw [← hy,hlen] at hbd
  obtain ⟨g1,g2,g3,g4,g5,g6,g7⟩:=okArc_iff.1 (hok l[k] (List.getElem_mem hlt))
  have hstep:capOf (fun j=>m.getD j false) (l.take (k + 1)) = y + (if m.getD l[k].f.toNat false = true ∧ m.getD l[k].t.toNat false = false then l[k].c else 0):=by
   rw [take_snoc' hlt,capOf_snoc,hy]
  obtain ⟨f,hf⟩:=Int.eq_ofNat_of_zero_le g1
  obtain ⟨t,ht⟩:=Int.eq_ofNat_of_zero_le g3
  rw [hf,ht] at hA hstep;rw [hf] at g2;rw [ht] at g4
  have e1:m[f]? = some (m.getD f false):=by
   have:f < m.length:=by omega
   simp [this]
  have e2:m[t]? = some (m.getD t false):=by
   have:t < m.length:=by omega
   simp [this]
  simp only [Int.toNat_natCast] at hstep
  cases c1:m.getD f false with
  | false =>
   rw [c1] at e1
   rw [if_neg (by rw [c1]; simp),Int.add_zero] at hstep
   refine Ab2 ?_;refine AX ?_; rintro _ _ ⟨b,rfl,rfl⟩;refine AV ?_; rintro _ _ ⟨rfl,rfl⟩;refine Ade ?_;refine Aac ?_;refine Adp ?_;refine Ach ?_;refine Abe ?_;refine Aa2 ?_
   exact AY (k + 1,_) ⟨by simp only; omega,hstep.symm⟩ (by simp only; omega) covZ selZ
  | true =>
   rw [c1] at e1
   cases c2:m.getD t false with
   | false =>
    rw [c2] at e2;rw [if_pos ⟨c1,c2⟩] at hstep;refine Ab2 ?_;refine AX ?_; rintro _ _ ⟨b,rfl,rfl⟩;refine AV ?_; rintro _ _ ⟨rfl,rfl⟩;refine Ade ?_;refine Aac ?_;refine BS ?_;refine Aca ?_;refine Aae ?_;refine Adp ?_;refine A9 ?_;refine AL ?_;refine Adg ?_;refine Aae ?_;refine Ad4 ?_;refine Aa2 ?_
    exact AY (k + 1,_) ⟨by simp only; omega,hstep.symm⟩ (by simp only; omega) covZ selZ
   | true =>
    rw [c2] at e2
    rw [if_neg (by rw [c2]; simp),Int.add_zero] at hstep
    refine Ab2 ?_;refine AX ?_; rintro _ _ ⟨b,rfl,rfl⟩;refine AV ?_; rintro _ _ ⟨rfl,rfl⟩;refine Ade ?_;refine Aac ?_;refine BS ?_;refine Aca ?_;refine Aae ?_;refine Adp ?_;refine A9 ?_;refine AL ?_;refine Adk ?_
    exact AY (k + 1,_) ⟨by simp only; omega,hstep.symm⟩ (by simp only; omega) covZ selZ
 ·refine AC ?_
  refine Ad0 ?_;refine Abt ?_;refine AI (res1 rfl rfl) rsubZ selZ ⟨rfl,?_⟩
  rw [hy,List.take_of_length_le (by omega)]

end Go.Proofs.YtphehihohghfoaaGreat
/- Capacity and Value, of the program and of the reference. -/
namespace Go.Proofs.YtphehihohghfoaaGreat
open Go.Eng Go.Flow
set_option maxRecDepth 100000
set_option maxHeartbeats 4000000

theorem capFun_eq (n:Nat) (side:List Int) (l:List Arc) (hok:∀ a ∈ l,okArc n a = true):capOf (fun j=>(marksOf n side).getD j false) l = capOf (fun j=>decide ((j:Int) ∈ side)) l:=by
 induction l with
 | nil=>rfl
 | cons a l ih =>
  obtain ⟨g1,g2,g3,g4,g5,g6,g7⟩:=okArc_iff.1 (hok a (by simp))
  simp only [capOf]
  rw [ih (fun b hb=>hok b (by simp [hb]))]
  have e1:(marksOf n side).getD a.f.toNat false = decide ((a.f.toNat:Int) ∈ side):=by
   rw [List.getD_eq_getElem?_getD,marksOf_get (by omega)]; rfl
  have e2:(marksOf n side).getD a.t.toNat false = decide ((a.t.toNat:Int) ∈ side):=by
   rw [List.getD_eq_getElem?_getD,marksOf_get (by omega)]; rfl
  simp only [e1,e2]

theorem flowCapacity_spec (ρ σ:PH) (v u:Value) (n:Int) (l:List Arc) (side:List Int) (hv:ArcsAt ρ v l) (hu:IntsAt σ u side) (hl:l.length ≤ 1000000) (hm:side.length ≤ 1000000) :
  Ans Tryz.prog (fv 44) [int n,v,u] [ρ,σ] (fun r=>r = .tuple #[int (capacitySpec n l side).1,int (capacitySpec n l side).2]):=by
 obtain ⟨q2,c2,rfl,hr2⟩:=hu.val Eng.encI_len
 refine spec_in (cap:=[]) Tryz.func44 rfl rfl Tryz.ntmps44 rfl envZ (fun N β=>?_)
 refine Acc ?_;refine Ac ?_
 focus ((refine A2 (check_spec ρ v n l hv hl) rfl rfl rdZ rfl rfl ?_; rintro _ rfl))
 refine Aa7 ?_
 by_cases hc:chk n l = 0
 rotate_left
 ·refine CF ?_
  refine Aag ?_;refine Adn ?_;refine AI (res2 rfl rfl rfl) rsubZ selZ ⟨rfl,?_⟩;unfold capacitySpec; rw [if_pos hc]
 obtain ⟨a1,a2,a3,hok⟩:=chk_ok hc
 obtain ⟨n,rfl⟩:=Int.eq_ofNat_of_zero_le a1
 refine Abc ?_;refine Aad ?_;refine E4 ?_; rintro _ _ ⟨b,rfl,rfl⟩;refine Aab ?_;refine Ab5 ?_;rw [← marksOf_nil]
 refine BA [0,1,2,9,20,21] (0:Nat) (fun k=>k ≤ side.length ∧ sideChk n none side = sideChk n (prevAt side k) (side.drop k)) (fun k=>[(22,int k)]) (fun k=>[sng b (.cells (bools (marksOf n (side.take k))) 4 (0,0))]) (fun k=>side.length - k) pickZ ⟨by omega,by simp [prevAt]⟩ covZ selZ ?_
 rintro k ⟨hk,hy⟩
 have hml:=marksOf_len n (side.take k)
 by_cases hlt:k < side.length
 ·obtain ⟨b2,o2,rfl,g1⟩:=hr2.int (List.getElem?_eq_getElem hlt)
  have g2:1 ≤ k → rdc σ b2 (o2 + (k - 1)) = some (int side[k - 1]):=fun h=>by
   obtain ⟨b3,o3,e,g⟩:=hr2.int (List.getElem?_eq_getElem (show k - 1 < side.length by omega))
   simp only [Option.some.injEq,Addr.mk.injEq,and_true] at e;rw [e.1,e.2]; exact g
  have hin:0 ≤ side[k] ∧ side[k] < (n:Int) ∨ side[k] < 0 ∨ (n:Int) ≤ side[k]:=by omega
  rcases hin with hin | hin
  ·have hpv:k = 0 ∨ (1 ≤ k ∧ side[k] ≤ side[k - 1]) ∨ (1 ≤ k ∧ side[k - 1] < side[k]):=by omega
   have hpa:1 ≤ k → prevAt side k = some side[k - 1]:=fun h=>by
    obtain ⟨j,rfl⟩:∃ j,k = j + 1:=⟨k - 1,by omega⟩
    simp [prevAt]
   obtain ⟨x,hx⟩:=Int.eq_ofNat_of_zero_le hin.1
   rcases hpv with rfl | ⟨h1,h2⟩ | ⟨h1,h2⟩
   ·have hst:=sideChk_step (n:=n) hlt hin.1 hin.2 (by simp [prevAt])
    rw [hx] at g1 hin;refine Ab8 ?_;refine Aby ?_;refine Aan ?_;refine Ac ?_
    focus ((refine A2 (inside_spec _ _) rfl rfl rdZ rfl rfl ?_; rintro v (⟨rfl,h⟩ | ⟨rfl,h⟩); rotate_left; (focus (exfalso; omega))))
    refine Ab4 ?_;refine Aam ?_;refine BU ?_;refine Aa9 ?_;refine Aak ?_;refine Abe ?_;refine AA ?_;refine Aaz ?_;refine BS ?_;refine DA ?_; rintro _ _ ⟨rfl,rfl⟩;refine Adr ?_
    refine AY 1 ⟨by omega,by rw [hy,hst]⟩ (by omega) covZ ?_
    rw [take_snoc' hlt,hx,marksOf_snoc];exact selZ
   ·have hst:=sideChk_nine (n:=n) hlt hin.1 hin.2 (hpa h1) h2
    have hcs:capacitySpec n l side = (0,9):=by
     unfold capacitySpec
     rw [if_neg (by rw [hc]; simp),hy,hst,if_pos (by simp)]
    have g3:=g2 h1
    rw [hx] at g1 hin h2;refine Ab8 ?_;refine Aby ?_;refine Aan ?_;refine Ac ?_
    focus ((refine A2 (inside_spec _ _) rfl rfl rdZ rfl rfl ?_; rintro v (⟨rfl,h⟩ | ⟨rfl,h⟩); rotate_left; (focus (exfalso; omega))))
    refine Ab4 ?_;refine Aam ?_;refine CL ?_;refine Aaz ?_;refine Aaz ?_;refine DI ?_;refine Aby ?_;refine CJ ?_;refine AL ?_;refine Aag ?_;refine Acc ?_
    exact AI (res2 rfl rfl rfl) rsubZ selZ ⟨rfl,by rw [hcs]⟩
   ·have hst:=sideChk_step (n:=n) hlt hin.1 hin.2 (fun p hp=>by rw [hpa h1] at hp; simp at hp; omega)
    have g3:=g2 h1
    rw [hx] at g1 hin h2;refine Ab8 ?_;refine Aby ?_;refine Aan ?_;refine Ac ?_
    focus ((refine A2 (inside_spec _ _) rfl rfl rdZ rfl rfl ?_; rintro v (⟨rfl,h⟩ | ⟨rfl,h⟩); rotate_left; (focus (exfalso; omega))))
    refine Ab4 ?_;refine Aam ?_;refine CL ?_;refine Aaz ?_;refine Aaz ?_;refine DI ?_;refine Aby ?_;refine CN ?_;refine AL ?_;refine Aai ?_;refine AA ?_;refine Aaz ?_;refine BS ?_;refine DA ?_; rintro _ _ ⟨rfl,rfl⟩;refine Adr ?_
    refine AY (k + 1) ⟨by omega,by rw [hy,hst]⟩ (by omega) covZ ?_
    rw [take_snoc' hlt,hx,marksOf_snoc];exact selZ
  ·have hst:=sideChk_two (n:=n) (prevAt side k) hlt hin
   have hcs:capacitySpec n l side = (0,2):=by
    unfold capacitySpec
    rw [if_neg (by rw [hc]; simp),hy,hst,if_pos (by simp)]
   refine Ab8 ?_;refine Aby ?_;refine Aan ?_;refine Ac ?_
   focus ((refine A2 (inside_spec _ _) rfl rfl rdZ rfl rfl ?_; rintro v (⟨rfl,h⟩ | ⟨rfl,h⟩); (focus (exfalso; omega))))
   refine Ac2 ?_;refine Acc ?_
   exact AI (res2 rfl rfl rfl) rsubZ selZ ⟨rfl,by rw [hcs]⟩
 ·obtain rfl:k = side.length:=by omega
  rw [List.take_length] at hml;rw [List.take_length];refine Abr ?_;refine Abp ?_
  focus ((refine A2 (capacity_spec ρ v n b n 4 l (marksOf n side) hv (by omega) hok hml) rfl rfl rdZ rfl rfl ?_; rintro _ rfl))
  refine Aan ?_;refine AI (res2 rfl rfl rfl) rsubZ selZ ⟨rfl,?_⟩;unfold capacitySpec
  rw [if_neg (by rw [hc]; simp),hy,List.drop_length]
  rw [if_neg (by simp [sideChk]),capFun_eq n side l hok]

end Go.Proofs.YtphehihohghfoaaGreat
/- Value, of the program and of the reference. -/
namespace Go.Proofs.YtphehihohghfoaaGreat
open Go.Eng Go.Flow
set_option maxRecDepth 100000
set_option maxHeartbeats 4000000

theorem balanced_of {n:Nat} {l:List Arc} {fl:List Int} {s t:Int} (h:∀ v:Nat,v < n → (v:Int) = s ∨ (v:Int) = t ∨ fval v l fl = 0):balanced n l fl s t = true:=by
 unfold balanced;rw [List.all_eq_true]
 intro v hv
 rw [decide_eq_true_eq]
 exact h v (by simpa using hv)
theorem balanced_not {n:Nat} {l:List Arc} {fl:List Int} {s t:Int} {v:Nat} (hv:v < n) (h1:(v:Int) ≠ s) (h2:(v:Int) ≠ t) (h3:fval v l fl ≠ 0):balanced n l fl s t = false:=by
 cases h:balanced n l fl s t with
 | false=>rfl
 | true =>
  unfold balanced at h;rw [List.all_eq_true] at h
  have:=h v (by simpa using hv)
  rw [decide_eq_true_eq] at this
  exact absurd this (by simp [h1,h2,h3])
theorem inCap_take_false {l:List Arc} {fl:List Int} {k:Nat} (hk:k < l.length) (hfl:fl.length = l.length) (h:¬ (0 ≤ fl[k] ∧ fl[k] ≤ l[k].c)):inCap l fl = false:=by
 cases hc:inCap l fl with
 | false=>rfl
 | true=>exact absurd (inCap_get l fl hc k l[k] fl[k] (List.getElem?_eq_getElem hk) (List.getElem?_eq_getElem (by omega))) h

theorem flowValue_spec (ρ σ:PH) (v u:Value) (n s t:Int) (l:List Arc) (fl:List Int) (hv:ArcsAt ρ v l) (hu:IntsAt σ u fl) (hl:l.length ≤ 1000000) :
    Ans Tryz.prog (fv 64) [int n,v,u,int s,int t] [ρ,σ] (fun r=>r = .tuple #[int (valueSpec n l fl s t).1,int (valueSpec n l fl s t).2]):=by
  obtain ⟨q,c,rfl,hr⟩:=hv.val encA_len
  obtain ⟨q2,c2,rfl,hr2⟩:=hu.val Eng.encI_len
  refine spec_in (cap:=[]) Tryz.func64 rfl rfl Tryz.ntmps64 rfl envZ (fun N β=>?_)
  refine Acc ?_;refine Ac ?_
  focus ((refine A2 (check_spec ρ _ n l hv hl) rfl rfl rdZ rfl rfl ?_; rintro _ rfl))
  refine Aa7 ?_
  by_cases hc:chk n l = 0
  rotate_left
  · refine CF ?_
    refine Aag ?_;refine Adn ?_;refine AI (res2 rfl rfl rfl) rsubZ selZ ⟨rfl,?_⟩;unfold valueSpec; rw [if_pos hc]
  obtain ⟨a1,a2,a3,hok⟩:=chk_ok hc
  obtain ⟨n,rfl⟩:=Int.eq_ofNat_of_zero_le a1
  by_cases he:okEnds n s t = true
  rotate_left
  · have he':okEnds n s t = false:=by simpa using he
    refine Abc ?_;refine Aam ?_;refine Aaz ?_
    focus ((refine A2 (ends_spec n s t) rfl rfl rdZ rfl rfl ?_; rintro _ rfl; rw [he',if_neg (by simp)]))
    refine Aef ?_;refine Adn ?_;refine AI (res2 rfl rfl rfl) rsubZ selZ ⟨rfl,?_⟩
    unfold valueSpec; rw [if_neg (by rw [hc]; simp),if_pos he']
  obtain ⟨s1,s2,t1,t2,st⟩:=okEnds_iff.1 he
  refine Abc ?_;refine Aam ?_;refine Aaz ?_
  focus ((refine A2 (ends_spec n s t) rfl rfl rdZ rfl rfl ?_; rintro _ rfl; rw [he,if_pos rfl]))
  refine Aa7 ?_;refine Ad8 ?_;refine AB ?_;refine AW ?_
  by_cases hfl:fl.length = l.length
  rotate_left
  · refine CF ?_
    refine Aag ?_;refine Acc ?_;refine AI (res2 rfl rfl rfl) rsubZ selZ ⟨rfl,?_⟩
    unfold valueSpec; rw [if_neg (by rw [hc]; simp),if_neg (by rw [he]; simp),if_pos hfl]
  refine Abc ?_;refine Aad ?_;refine DO ?_; rintro _ _ ⟨b,rfl,rfl⟩;refine Aab ?_;refine Ab5 ?_
  rw [show List.replicate n (0:Int) = negL (netL n [] []) from by rw [netL_nil]; simp [negL]]
  refine BA [0,1,2,3,4,14,39,40] (0:Nat) (fun k=>k ≤ l.length ∧ inCap (l.take k) (fl.take k) = true) (fun k=>[(41,int k)]) (fun k=>[sng b (.cells (ints (negL (netL n (l.take k) (fl.take k)))) 3 (0,0))]) (fun k=>l.length - k) pickZ ⟨by omega,by simp [inCap]⟩ covZ selZ ?_
  rintro k ⟨hk,hy⟩
  by_cases hlt:k < l.length
  · have hltf:k < fl.length:=by omega
    obtain ⟨b',o,rfl,hA,h0,h1,h2⟩:=arcRow hr (List.getElem?_eq_getElem hlt)
    obtain ⟨b2,o2,rfl,f0⟩:=hr2.int (List.getElem?_eq_getElem hltf)
    obtain ⟨g1,g2,g3,g4,g5,g6,g7⟩:=okArc_iff.1 (hok l[k] (List.getElem_mem hlt))
    by_cases hin:0 ≤ fl[k] ∧ fl[k] ≤ l[k].c
    rotate_left
    · have hvs:valueSpec n l fl s t = (0,2):=by
        unfold valueSpec
        rw [if_neg (by rw [hc]; simp),if_neg (by rw [he]; simp),if_neg (by simpa using hfl),if_pos (inCap_take_false hlt hfl hin)]
      rcases (show fl[k] < 0 ∨ (0 ≤ fl[k] ∧ l[k].c < fl[k]) by omega) with hin' | hin'
      all_goals
        refine Ad7 ?_;refine AX ?_; rintro _ _ ⟨b,rfl,rfl⟩;refine AD ?_;refine AV ?_; rintro _ _ ⟨rfl,rfl⟩;refine Aaj ?_;refine AC ?_
        refine A5 (.q 0 (.q 1 (.q 2 (.q 3 (.q 4 (.q 5 (.q 6 (.q 7 (.q 8 (.q 9 (.q 10 (.q 11 (.q 12 (.q 13 .nil)))))))))))))) [] rfl (by kernel_rfl) selZ ?_
        repeat' (first
          | (refine AS ?_)
          | (refine AQ ?_)
          | (refine AU ?_)
          | (refine CZ ?_)
          | (refine BY ?_)
          | (refine BV ?_)
          | (refine E7 ?_)
          | (refine DV ?_)
          | (refine D8 ?_)
          | (refine A4 rfl rfl rfl rfl rfl ?_)
          | (refine A6 ?_)
          | fail)
        refine AN rfl ?_;refine Acc ?_
        exact AI (res2 rfl rfl rfl) rsubZ selZ ⟨rfl,by rw [hvs]⟩
    obtain ⟨f,hf⟩:=Int.eq_ofNat_of_zero_le g1
    obtain ⟨t',ht⟩:=Int.eq_ofNat_of_zero_le g3
    rw [hf,ht] at hA g5;rw [hf] at g2;rw [ht] at g4
    have hst:(l.take k).length = (fl.take k).length:=by simp; omega
    have hlen:(fl.take k).length = k:=by simp; omega
    have hnet:=netL_snoc (n:=n) (l:=l.take k) (fl:=fl.take k) (a:=l[k]) (x:=fl[k]) hst hf ht (by omega)
    rw [← take_snoc' hlt,← take_snoc' hltf] at hnet
    have hsm:small (fl.take k):=inCap_small _ _ hst hy (fun a ha=>hok a (List.mem_of_mem_take ha))
    have b1:=fval_bd f (l.take k) (fl.take k) hsm
    have b2':=fval_bd t' (l.take k) (fl.take k) hsm
    rw [hlen] at b1 b2'
    generalize hE:negL (netL n (l.take k) (fl.take k)) = E
    have hEl:E.length = n:=by rw [← hE,negL_len,netL_len]
    have e1:E.getD f 0 = -(fval f (l.take k) (fl.take k)):=by rw [← hE,negL_get (by rw [netL_len]; omega),netL_get (by omega)]
    have e2:E.getD t' 0 = -(fval t' (l.take k) (fl.take k)):=by rw [← hE,negL_get (by rw [netL_len]; omega),netL_get (by omega)]
    have e3:(E.set f (E.getD f 0 - fl[k])).getD t' 0 = E.getD t' 0:=by
      rw [List.getD_eq_getElem?_getD,List.getElem?_set_ne (by omega),← List.getD_eq_getElem?_getD]
    have e4:(E.set f (E.getD f 0 - fl[k])).length = n:=by simp [hEl]
    refine Ad7 ?_;refine AX ?_; rintro _ _ ⟨b,rfl,rfl⟩;refine AD ?_;refine AV ?_; rintro _ _ ⟨rfl,rfl⟩;refine Aaj ?_;refine AC ?_
    refine A5 (.q 0 (.q 1 (.q 2 (.q 3 (.q 4 (.q 5 (.q 6 (.q 7 (.q 8 (.q 9 (.q 10 (.q 11 (.q 12 (.q 13 .nil)))))))))))))) [] rfl (by kernel_rfl) selZ ?_
    refine Aa8 ?_;refine CZ ?_;refine AQ ?_;refine DV ?_;refine Aa8 ?_;refine AS ?_;refine CZ ?_;refine AQ ?_;refine Aar ?_;refine DK ?_;refine BV ?_;refine Ad5 ?_
    refine A5 (.q 0 (.q 1 (.q 2 (.q 3 (.q 4 (.q 5 (.q 6 (.q 7 (.q 8 (.q 9 (.q 10 (.l 11 .b .nil)))))))))))) [] rfl (by kernel_rfl) selZ ?_
    refine Ac3 ?_;refine Adq ?_;refine Aa8 ?_;refine CZ ?_;refine AQ ?_;refine E1 ?_;refine B9 ?_;refine DW ?_; rintro _ _ ⟨rfl,rfl⟩;refine A6 ?_
    skip
    refine A5 (.q 0 (.q 1 (.q 2 (.q 3 (.q 4 (.q 5 (.q 6 (.q 7 (.q 8 (.q 9 (.q 10 (.l 11 .b .nil)))))))))))) [] rfl (by kernel_rfl) selZ ?_
    refine Ac3 ?_;refine Adq ?_;refine Aa8 ?_;refine CZ ?_;refine AQ ?_;refine C4 ?_;refine B9 ?_;refine DW ?_; rintro _ _ ⟨rfl,rfl⟩;refine A6 ?_;refine Aa2 ?_
    refine AY (k + 1) ⟨by omega,?_⟩ (by omega) covZ ?_
    · rw [take_snoc' hlt,take_snoc' hltf,inCap_snoc _ _ _ _ hst,hy]
      simp; omega
    · rw [hnet,negL_set,negL_set,hE]
      rw [show -(fval f (l.take k) (fl.take k) + fl[k]) = E.getD f 0 - fl[k] from by omega]
      rw [show -(fval t' (l.take k) (fl.take k) - fl[k]) = (E.set f (E.getD f 0 - fl[k])).getD t' 0 + fl[k] from by rw [e3]; omega]
      exact selZ
  obtain rfl:k = l.length:=by omega
  rw [List.take_length,List.take_of_length_le (by omega)] at hy
  rw [List.take_length,List.take_of_length_le (by omega)]
  have hsm:small fl:=inCap_small _ _ hfl.symm hy hok
  generalize hE:negL (netL n l fl) = E
  have hEl:E.length = n:=by rw [← hE,negL_len,netL_len]
  refine Abr ?_;refine Ab5 ?_
  refine BA [1,2,3,4,83,84] (0:Nat) (fun k=>k ≤ n ∧ ∀ v:Nat,v < k → (v:Int) = s ∨ (v:Int) = t ∨ fval v l fl = 0) (fun k=>[(85,int k)]) (fun _=>[sng b (.cells (ints E) 3 (0,0))]) (fun k=>n - k) pickZ ⟨by omega,by simp⟩ covZ selZ ?_
  rintro k ⟨hk,hz⟩
  by_cases hlt:k < n
  · have e1:E.getD k 0 = -(fval k l fl):=by rw [← hE,negL_get (by rw [netL_len]; omega),netL_get (by omega)]
    repeat' (first
      | (refine AB ?_)
      | (refine AD ?_)
      | (refine AF ?_)
      | (refine BS ?_)
      | (refine AL ?_)
      | (refine AJ ?_)
      | (refine A8 ?_)
      | (refine BC ?_)
      | (refine AC ?_)
      | (refine AA ?_)
      | (refine AE ?_)
      | (refine AP ?_)
      | (refine A3 ?_)
      | (refine AK ?_)
      | (refine AN rfl ?_)
      | (refine AM rfl ?_)
      | (refine AH rfl rfl rfl ?_)
      | (focus ((refine B7 rfl rfl (cmp_ne _ _) rfl rfl (fun h=>?_) (fun h=>?_))))
      | fail)
    all_goals first
      | (refine AY (k + 1) ⟨by omega,fun v hv=>?_⟩ (by omega) covZ selZ
         rcases Nat.lt_or_ge v k with hv' | hv'
         · exact hz v hv'
         · obtain rfl:v = k:=by omega
           omega)
      | (refine AI (res2 rfl rfl rfl) rsubZ selZ ⟨rfl,?_⟩
         have hb:=balanced_not (l:=l) (fl:=fl) (s:=s) (t:=t) hlt (by omega) (by omega) (by omega)
         unfold valueSpec
         rw [if_neg (by rw [hc]; simp),if_neg (by rw [he]; simp),if_neg (by simpa using hfl),if_neg (by rw [hy]; simp),Int.toNat_natCast,if_pos hb])
  · refine AC ?_
    refine Ad0 ?_;refine Aad ?_;refine Aaz ?_
    focus ((refine A2 (value_spec ρ σ _ _ s l fl hv hu a3 hfl hsm) rfl rfl rdZ rfl rfl ?_; rintro _ rfl))
    refine Aan ?_;refine AI (res2 rfl rfl rfl) rsubZ selZ ⟨rfl,?_⟩
    have hb:=balanced_of (n:=n) (l:=l) (fl:=fl) (s:=s) (t:=t) (fun v hv=>hz v (by omega))
    unfold valueSpec
    rw [if_neg (by rw [hc]; simp),if_neg (by rw [he]; simp),if_neg (by simpa using hfl),if_neg (by rw [hy]; simp),Int.toNat_natCast,if_neg (by rw [hb]; simp)]

end Go.Proofs.YtphehihohghfoaaGreat
/- Shipments. -/
namespace Go.Proofs.YtphehihohghfoaaGreat
open Go.Eng Go.Step
set_option maxRecDepth 100000
set_option maxHeartbeats 4000000

set_option maxHeartbeats 32000000 in
theorem Shipments_spec {ρ τ σ υ:PH} {pq pc pb ph:Option Addr} {kq kc kb kh:Nat} {qs:List Int} {cs:List Ct} {bs:List Bk} {hs:List Hd} (hT:TbAt ρ τ σ υ pq pc pb ph kq kc kb kh qs cs bs hs) (d:Dm) (ω:PH) (u0:Value) (fl:List Int) (hu:IntsAt ω u0 fl) :
  Makes Tryz.prog (fv 34) [.agg #[.slice pq qs.length kq,.slice pc cs.length kc,.slice pb bs.length kb,.slice ph hs.length kh],.agg #[int d.s,int d.d,int d.v,int d.r,int d.e],u0] [ρ,τ,σ,υ,ω] (fun r χ=>∃ u,r = .tuple #[u,int (shipsE qs cs bs hs d fl)] ∧ OwnS 55 3 u (shipsR qs cs bs hs d fl).length ((shipsR qs cs bs hs d fl).flatMap encX) χ):=by
 obtain ⟨pf,kf,rfl,hrf⟩:=hu.val Eng.encI_len
 refine spec_in (cap:=[]) Tryz.func34 rfl rfl Tryz.ntmps34 rfl envZ (fun N β=>?_)
 refine Aa ?_;refine BH (BK rfl) rfl rfl rfl ?_;rintro _ _ ⟨b1,rfl,rfl⟩;refine AR (ρ:=sng b1 _) takeZ ?_
 have ct:=rdB b1 29 [.slice pq qs.length kq,.slice pc cs.length kc,.slice pb bs.length kb,.slice ph hs.length kh]
 have ct0:=rdC ct 0
 have ct1:=rdC ct 1
 have ct2:=rdC ct 2
 have ct3:=rdC ct 3
 have ctp:RdP (sng b1 (.cells #[.slice pq qs.length kq,.slice pc cs.length kc,.slice pb bs.length kb,.slice ph hs.length kh] 29 (0,0))) b1 0 [.slice pq qs.length kq,.slice pc cs.length kc]:=rdP_sng (xs:=[.slice pq qs.length kq,.slice pc cs.length kc,.slice pb bs.length kb,.slice ph hs.length kh]) rfl
 refine BH (BK rfl) rfl rfl rfl ?_;rintro _ _ ⟨b2,rfl,rfl⟩;refine AR (ρ:=sng b2 _) takeZ ?_
 have cd:=rdB b2 31 [int d.s,int d.d,int d.v,int d.r,int d.e]
 have cd0:=rdC cd 0
 have cd1:=rdC cd 1
 have cd2:=rdC cd 2
 have cd3:=rdC cd 3
 have cd4:=rdC cd 4
 refine BH (CX rfl rfl) rfl rfl rfl ?_;rintro _ _ ⟨bf,rfl,rfl⟩;refine AR (ρ:=sng bf _) takeZ ?_
 have cf:rdc (sng bf (.cells #[.slice pf fl.length kf] 22 (0,0))) bf 0 = some (.slice pf fl.length kf):=by rw [rdc_sng]; rfl
 refine BX ?_;refine Aan ?_;refine Ab0 ?_;refine BE (build_spec hT d) rfl rfl Takes.nil rdZ rfl rfl ?_;rintro _ H' (⟨hv,rfl,rfl⟩ | ⟨hv,bw,bm,pl0,χ,M,rfl,rfl,hO,hM⟩)
 ·have hE:shipsE qs cs bs hs d fl = 1:=by unfold shipsE; rw [if_neg (by simp [hv])]
  have hR:shipsR qs cs bs hs d fl = []:=by unfold shipsR; rw [hE,if_neg (by omega)]
  rw [hE,hR];refine Ab7 ?_;refine Ac2 ?_;refine Acc ?_;exact AI (res2 rfl rfl rfl) rsubZ selZ ⟨emp,⟨_,rfl,OwnS.nil _ _⟩,rfl⟩
 have hEv:shipsE qs cs bs hs d fl = (Go.Flow.valueSpec (vsN qs d) (arcsG qs cs bs hs d) fl (vtx d d.s d.r) (vtx d d.d d.e)).2:=by unfold shipsE; rw [if_pos hv]
 have h:=vok hv
 have h0:=vokB hv
 have hdm:=h.dm
 unfold okDm at hdm
 have hnq:=h.nq
 obtain ⟨pl,kp,rfl⟩:=hO.form
 have hpl:SlE encS 2 χ (.slice pl (placesA d qs.length).length kp) (placesA d qs.length):=hO.at
 refine AR (ρ:=sng bw _) takeZ ?_;refine AR (ρ:=sng bm _) takeZ ?_;refine AR (ρ:=χ) takeZ ?_
 have w0:rdc (sng bw (.cells #[.slice pq qs.length kq,.slice pc cs.length kc,.slice pb bs.length kb,.slice ph hs.length kh,int d.s,int d.d,int d.v,int d.r,int d.e,.slice pl (placesA d qs.length).length kp,.map (some bm)] 134 (0,0))) bw 0 = some (.slice pq qs.length kq):=by rw [rdc_sng]; rfl
 have w1:rdc (sng bw (.cells #[.slice pq qs.length kq,.slice pc cs.length kc,.slice pb bs.length kb,.slice ph hs.length kh,int d.s,int d.d,int d.v,int d.r,int d.e,.slice pl (placesA d qs.length).length kp,.map (some bm)] 134 (0,0))) bw 1 = some (.slice pc cs.length kc):=by rw [rdc_sng]; rfl
 have w2:rdc (sng bw (.cells #[.slice pq qs.length kq,.slice pc cs.length kc,.slice pb bs.length kb,.slice ph hs.length kh,int d.s,int d.d,int d.v,int d.r,int d.e,.slice pl (placesA d qs.length).length kp,.map (some bm)] 134 (0,0))) bw 2 = some (.slice pb bs.length kb):=by rw [rdc_sng]; rfl
 have w3:rdc (sng bw (.cells #[.slice pq qs.length kq,.slice pc cs.length kc,.slice pb bs.length kb,.slice ph hs.length kh,int d.s,int d.d,int d.v,int d.r,int d.e,.slice pl (placesA d qs.length).length kp,.map (some bm)] 134 (0,0))) bw 3 = some (.slice ph hs.length kh):=by rw [rdc_sng]; rfl
 have w4:rdc (sng bw (.cells #[.slice pq qs.length kq,.slice pc cs.length kc,.slice pb bs.length kb,.slice ph hs.length kh,int d.s,int d.d,int d.v,int d.r,int d.e,.slice pl (placesA d qs.length).length kp,.map (some bm)] 134 (0,0))) bw 4 = some (int d.s):=by rw [rdc_sng]; rfl
 have w5:rdc (sng bw (.cells #[.slice pq qs.length kq,.slice pc cs.length kc,.slice pb bs.length kb,.slice ph hs.length kh,int d.s,int d.d,int d.v,int d.r,int d.e,.slice pl (placesA d qs.length).length kp,.map (some bm)] 134 (0,0))) bw 5 = some (int d.d):=by rw [rdc_sng]; rfl
 have w6:rdc (sng bw (.cells #[.slice pq qs.length kq,.slice pc cs.length kc,.slice pb bs.length kb,.slice ph hs.length kh,int d.s,int d.d,int d.v,int d.r,int d.e,.slice pl (placesA d qs.length).length kp,.map (some bm)] 134 (0,0))) bw 6 = some (int d.v):=by rw [rdc_sng]; rfl
 have w7:rdc (sng bw (.cells #[.slice pq qs.length kq,.slice pc cs.length kc,.slice pb bs.length kb,.slice ph hs.length kh,int d.s,int d.d,int d.v,int d.r,int d.e,.slice pl (placesA d qs.length).length kp,.map (some bm)] 134 (0,0))) bw 7 = some (int d.r):=by rw [rdc_sng]; rfl
 have w8:rdc (sng bw (.cells #[.slice pq qs.length kq,.slice pc cs.length kc,.slice pb bs.length kb,.slice ph hs.length kh,int d.s,int d.d,int d.v,int d.r,int d.e,.slice pl (placesA d qs.length).length kp,.map (some bm)] 134 (0,0))) bw 8 = some (int d.e):=by rw [rdc_sng]; rfl
 have w9:rdc (sng bw (.cells #[.slice pq qs.length kq,.slice pc cs.length kc,.slice pb bs.length kb,.slice ph hs.length kh,int d.s,int d.d,int d.v,int d.r,int d.e,.slice pl (placesA d qs.length).length kp,.map (some bm)] 134 (0,0))) bw 9 = some (.slice pl (placesA d qs.length).length kp):=by rw [rdc_sng]; rfl
 have w10:rdc (sng bw (.cells #[.slice pq qs.length kq,.slice pc cs.length kc,.slice pb bs.length kb,.slice ph hs.length kh,int d.s,int d.d,int d.v,int d.r,int d.e,.slice pl (placesA d qs.length).length kp,.map (some bm)] 134 (0,0))) bw 10 = some (.map (some bm)):=by rw [rdc_sng]; rfl
 have hg:=graph_spec hT bw bm kp pl χ M d h h0 hpl hM
 have hit:=fun c1=>arcs_iter hT bw bm c1 kp pl χ M d h h0 hpl hM
 have hEl:=ea_len qs cs bs hs d h
 have hAl:(arcsG qs cs bs hs d).length = (arcsE qs cs bs hs d).length:=by unfold arcsG; rw [List.length_map]
 have hone:∀ z n (xs:List Value) (χ:PH),OwnS 55 3 z n xs χ → z.oneCell' = true:=fun z n xs χ h=>by obtain ⟨_,_,rfl⟩:=h.form; rfl
 refine Aem ?_;refine Aad ?_;refine BZ hg rfl rfl rdZ rfl rfl ?_;rintro _ σg ⟨ug,rfl,hOg⟩
 have hAt:ArcsAt σg ug (arcsG qs cs bs hs d):=hOg.at
 obtain ⟨pg,kg,rfl⟩:=hOg.form
 refine AR (ρ:=σg) takeZ ?_;refine AX ?_; rintro _ _ ⟨b,rfl,rfl⟩;refine AV ?_; rintro _ _ ⟨rfl,rfl⟩;refine Aaj ?_;refine Acl ?_;refine AF ?_;refine Acy ?_
 revert b; intro bg
 refine AR (ρ:=sng bg _) takeZ ?_
 have gg0:rdc (sng bg (.cells #[int (vsN qs d),.slice pg (arcsG qs cs bs hs d).length kg,int (vtx d d.s d.r),int (vtx d d.d d.e)] 69 (0,0))) bg 0 = some (int (vsN qs d)):=by rw [rdc_sng]; rfl
 have gg1:rdc (sng bg (.cells #[int (vsN qs d),.slice pg (arcsG qs cs bs hs d).length kg,int (vtx d d.s d.r),int (vtx d d.d d.e)] 69 (0,0))) bg 1 = some (.slice pg (arcsG qs cs bs hs d).length kg):=by rw [rdc_sng]; rfl
 have gg2:rdc (sng bg (.cells #[int (vsN qs d),.slice pg (arcsG qs cs bs hs d).length kg,int (vtx d d.s d.r),int (vtx d d.d d.e)] 69 (0,0))) bg 2 = some (int (vtx d d.s d.r)):=by rw [rdc_sng]; rfl
 have gg3:rdc (sng bg (.cells #[int (vsN qs d),.slice pg (arcsG qs cs bs hs d).length kg,int (vtx d d.s d.r),int (vtx d d.d d.e)] 69 (0,0))) bg 3 = some (int (vtx d d.d d.e)):=by rw [rdc_sng]; rfl
 have hval:=flowValue_spec σg ω _ _ (vsN qs d) (vtx d d.s d.r) (vtx d d.d d.e) (arcsG qs cs bs hs d) fl hAt hu (by omega)
 skip
 refine A2 hval rfl rfl rdZ rfl rfl ?_;rintro _ rfl;rw [← hEv]
 generalize (Go.Flow.valueSpec (vsN qs d) (arcsG qs cs bs hs d) fl (vtx d d.s d.r) (vtx d d.d d.e)).1 = vv
 by_cases hz:shipsE qs cs bs hs d fl = 0
 rotate_left
 ·have hR:shipsR qs cs bs hs d fl = []:=by unfold shipsR; rw [if_neg hz]
  rw [hR];refine Acx ?_;refine Acs ?_;refine Adn ?_;exact AI (res2 rfl rfl rfl) rsubZ selZ ⟨emp,⟨_,rfl,OwnS.nil _ _⟩,rfl⟩
 have hR:shipsR qs cs bs hs d fl = shipsF (arcsE qs cs bs hs d) fl:=by unfold shipsR; rw [if_pos hz]
 have hfl:=shipsE_len hv hz
 rw [hz,hR];refine Acx ?_;refine Abc ?_;refine Aa ?_;refine BR ?_; rintro _ _ ⟨b,rfl,rfl⟩;refine AE ?_;refine Aa ?_;refine BR ?_; rintro _ _ ⟨b,rfl,rfl⟩;refine BD ?_; rintro _ _ ⟨rfl,rfl⟩;refine Aaj ?_;refine Aad ?_
 revert b; intro b14
 revert b; intro b13
 refine BE (arcs_spec bw) rfl rfl Takes.nil (fun τ hτ=>by simp at hτ) rfl rfl ?_
 rintro _ _ ⟨c1,rfl,rfl⟩;refine AR (ρ:=sng c1 _) takeZ ?_;refine AE ?_;refine AP ?_
 refine CW (gf:=102) (cap:=[.pointer (some ⟨c1,0,none⟩)]) (ps:=[44]) (X:=Nat × Value × PH) rfl Tryz.func102 rfl rfl
  (hit c1) ?_
  (fun i x=>x.1 = i ∧ OwnS 55 3 x.2.1 (shipsF ((arcsE qs cs bs hs d).take i) (fl.take i)).length ((shipsF ((arcsE qs cs bs hs d).take i) (fl.take i)).flatMap encX) x.2.2)
  (fun x=>[sng b14 (.cells #[int x.1] 3 (0,0)),sng b13 (.cells #[x.2.1] 37 (0,0)),x.2.2]) (fun _ _=>False) (0,.slice none 0 0,emp) rfl takesZ ⟨rfl,OwnS.nil _ _⟩ ?_ ?_ ?_
 ·intro σ' hσ
  simp only [List.mem_cons,List.not_mem_nil,or_false] at hσ ⊢
  rcases hσ with h | h | h | h | h | h | h | h <;> simp [h]
 ·rintro lo r i ⟨i',u,σ1⟩ vs hvs ⟨hi',hO1⟩ hps has hbd hst hpe hfr
  obtain ⟨st,pe,fnn,tm,prm,asg,bdy,df⟩:=r
  simp only at hps has hbd hst hpe hfr;subst hps has hbd hst hpe;rw [List.getElem?_map] at hvs
  obtain ⟨x,hx,rfl⟩:=Option.map_eq_some_iff.1 hvs
  dsimp only at hi' hO1
  subst hi'
  have hil:=(List.getElem?_eq_some_iff.1 hx).1
  have hy:=List.getElem?_eq_getElem (show i' < fl.length by omega)
  have hnx:=shipsF_next hfl hx hy
  obtain ⟨bo,oo,epf,gf⟩:=hrf.int hy
  have hsl:=shipsF_len ((arcsE qs cs bs hs d).take i') (fl.take i')
  rw [List.length_take] at hsl;simp only [hnx]
  generalize fl[i'] = y at hy gf hnx
  generalize shipsF ((arcsE qs cs bs hs d).take i') (fl.take i') = O at hO1 hsl
  have hu1:=hone _ _ _ _ hO1
  subst epf
  refine yield_spec hfr rfl (by intro p hp; simp at hp; omega) putiZ (fun N' β'=>?_)
  dsimp only
  refine AA ?_;refine AX ?_; rintro _ _ ⟨b,rfl,rfl⟩;refine AV ?_; rintro _ _ ⟨rfl,rfl⟩;refine Aee ?_;refine CV takeZ rfl ?_
  revert b; intro bx
  refine AR (ρ:=sng bx _) takeZ ?_
  have px0:rdc (sng bx (.cells #[int x.a.f,int x.a.t,int x.a.c,int x.c,int x.t] 150 (0,0))) bx 0 = some (int x.a.f):=by rw [rdc_sng]; rfl
  have px1:rdc (sng bx (.cells #[int x.a.f,int x.a.t,int x.a.c,int x.c,int x.t] 150 (0,0))) bx 1 = some (int x.a.t):=by rw [rdc_sng]; rfl
  have px2:rdc (sng bx (.cells #[int x.a.f,int x.a.t,int x.a.c,int x.c,int x.t] 150 (0,0))) bx 2 = some (int x.a.c):=by rw [rdc_sng]; rfl
  have px3:rdc (sng bx (.cells #[int x.a.f,int x.a.t,int x.a.c,int x.c,int x.t] 150 (0,0))) bx 3 = some (int x.c):=by rw [rdc_sng]; rfl
  have px4:rdc (sng bx (.cells #[int x.a.f,int x.a.t,int x.a.c,int x.c,int x.t] 150 (0,0))) bx 4 = some (int x.t):=by rw [rdc_sng]; rfl
  by_cases hc:0 ≤ x.c
  ·by_cases hy0:0 < y
   ·rw [if_pos ⟨hc,hy0⟩]
    refine AP ?_;refine Ad2 ?_;refine CC ?_;refine AB ?_;refine AF ?_;refine AF ?_;refine Aby ?_;refine CL ?_;refine AL ?_;refine Aag ?_
    refine A5 (.q 0 (.q 1 (.q 2 (.q 3 (.q 4 (.q 5 (.q 6 (.q 7 (.q 8 (.q 9 (.l 10 .e (.l 11 .b (.l 12 .b .nil))))))))))))) [] rfl (by kernel_rfl) Sel.nil ?_
    refine AQ ?_;refine Ac6 ?_;refine AQ ?_;refine AQ ?_;refine CZ ?_;refine AQ ?_;refine CQ ?_;refine B0 ?_; rintro _ _ ⟨b,rfl,rfl⟩
    refine CP (a_b rfl (B5 (by_:=24) (s:=3) (news:=[int x.c,int x.t,int y]) rfl rfl rfl rfl rfl rfl rfl hO1 takeZ (cells_own memZ) rfl (by (repeat (first | exact (fun v hv=>absurd hv List.not_mem_nil) | (refine List.forall_mem_cons.2 ⟨?_,?_⟩; (focus (first | exact rfl | assumption))))); first | done | fail) (by omega) (by simp only [maxLen]; omega) (by omega)) rfl rfl rfl (fun _ _ _ w hw=>hw.sel Sel.nil) ?_)
    rintro u1 _ ⟨σ2,hO2,rfl⟩
    have hu2:=hone _ _ _ _ hO2
    refine DB ?_; rintro _ _ ⟨rfl,rfl⟩;refine A6 ?_;refine AA ?_;refine AF ?_;refine A8 ?_;refine BD ?_; rintro _ _ ⟨rfl,rfl⟩;refine Aeb ?_;refine BP takeZ rsubZ selZ ⟨(i' + 1,u1,σ2),.inl ⟨rfl,⟨rfl,?_⟩,rfl⟩⟩
    dsimp only
    rw [List.length_append,List.flatMap_append];exact hO2
   ·rw [if_neg (fun h=>hy0 h.2),List.append_nil]
    refine AP ?_;refine Ad2 ?_;refine CC ?_;refine AB ?_;refine AF ?_;refine AF ?_;refine Aby ?_;refine BU ?_;refine AL ?_;refine Aai ?_;refine AA ?_;refine AF ?_;refine A8 ?_;refine BD ?_; rintro _ _ ⟨rfl,rfl⟩;refine Aeb ?_;exact BP takeZ rsubZ selZ ⟨(i' + 1,u,σ1),.inl ⟨rfl,⟨rfl,hO1⟩,rfl⟩⟩
  ·rw [if_neg (fun h=>hc h.1),List.append_nil]
   refine AP ?_;refine Ad2 ?_;refine BG ?_;refine Ab6 ?_;refine Abe ?_;refine AA ?_;refine AF ?_;refine A8 ?_;refine BD ?_; rintro _ _ ⟨rfl,rfl⟩;refine Aeb ?_;exact BP takeZ rsubZ selZ ⟨(i' + 1,u,σ1),.inl ⟨rfl,⟨rfl,hO1⟩,rfl⟩⟩
 ·rintro b9 ⟨i',u,σ1⟩ ⟨_,hO1⟩
  rw [List.length_map,List.take_length,← hfl,List.take_length] at hO1
  dsimp only at hO1
  have hu1:=hone _ _ _ _ hO1
  refine A3 ?_;refine Abd ?_;refine Aan ?_;refine D5 (v:=.tuple #[u,int 0]) (Marks.cons .here .nil) ?_ rsubZ ?_ ⟨σ1,⟨u,rfl,hO1⟩,rfl⟩
  ·exact res2 rfl rfl rfl
  ·exact selZ
 ·rintro _ _ _ h; exact h.elim
end Go.Proofs.YtphehihohghfoaaGreat
/- Slices of sets. -/
namespace Go.Proofs.YtphehihohghfoaaGreat
open Go.Eng Go.Step
set_option maxRecDepth 100000
set_option maxHeartbeats 4000000

abbrev Sq:=(Option Addr × Nat) × List (Int × Int)
def encQ (x:Sq):List Value:=[.slice x.1.1 x.2.length x.1.2]
theorem encQ_len (x:Sq):(encQ x).length = 1:=rfl
abbrev cuL (L:List Sq):Cu:=L.map (fun x=>x.2)
def CutL (γ κ:PH) (v:Value) (L:List Sq):Prop:=SlE encQ 1 γ v L ∧ ∀ x ∈ L,SpAt κ (.slice x.1.1 x.2.length x.1.2) x.2 ∧ x.2.length ≤ 9223372036854775807
theorem CutL.row {γ κ:PH} {p:Option Addr} {n kk:Nat} {L:List Sq} (h:CutL γ κ (.slice p n kk) L):CutRow γ κ p (cuL L):=fun i l hl=>by
 rw [List.getElem?_map] at hl
 obtain ⟨x,hx,rfl⟩:=Option.map_eq_some_iff.1 hl
 obtain ⟨q,k,e,hr⟩:=h.1.val encQ_len
 simp only [Value.slice.injEq] at e
 obtain ⟨b,o,e2,hrd⟩:=hr i x hx
 obtain ⟨h1,h2⟩:=h.2 x (List.mem_of_getElem? hx)
 refine ⟨b,o,x.1.1,x.1.2,by rw [e.1,e2],?_,h1,h2⟩
 have:=hrd 0 _ rfl
 rwa [Nat.mul_one,Nat.add_zero] at this
end Go.Proofs.YtphehihohghfoaaGreat
/- The ends of two sets, in their order. -/
namespace Go.Proofs.YtphehihohghfoaaGreat
open Go.Eng Go.Step
set_option maxRecDepth 100000
set_option maxHeartbeats 4000000

theorem sideNext_spec (ρ:PH) (v:Value) (l:Iv) (b p:Nat) (hv:SpAt ρ v l) (hl:l.length ≤ 4611686018427387903) (hp:p ≤ 2 * l.length) :
  Ans Tryz.prog (fv 150) [.pointer (some ⟨b,0,none⟩)] [sng b (.cells #[v,int ((p / 2:Nat):Int),.bool (oddB p)] 232 (0,0)),ρ] (fun r=>r = .tuple #[int ((tog l).getD p 0),.bool (decide (p < 2 * l.length))]):=by
 obtain ⟨q,c,rfl,hr⟩:=hv.val encS_len
 have hod:=oddB_cases p
 obtain ⟨i,hi⟩:∃ i,p / 2 = i:=⟨_,rfl⟩
 rw [hi] at hod ⊢
 have ct:=rdB b 232 [.slice q l.length c,int ((i:Nat):Int),.bool (oddB p)]
 have ct0:=rdC ct 0
 have ct1:=rdC ct 1
 have ct2:=rdC ct 2
 refine spec_in (cap:=[]) Tryz.func150 rfl rfl Tryz.ntmps150 rfl envZ (fun N β=>?_)
 by_cases h0:p = 2 * l.length
 ·have hR:(tog l).getD p 0 = 0:=by rw [List.getD_eq_getElem?_getD,List.getElem?_eq_none (by rw [tog_len]; omega)]; rfl
  rw [hR,decide_eq_false (by omega)]
  have hil:i = l.length:=by omega
  refine Acc ?_;refine Aau ?_;refine AC ?_
  refine A5 (.q 0 (.q 1 (.q 2 (.q 3 (.q 4 (.q 5 (.q 6 (.q 7 (.q 8 (.q 9 (.q 10 .nil))))))))))) [] rfl (by kernel_rfl) selZ ?_
  refine Ae ?_;refine DX ?_;refine EK ?_;refine BT ?_;refine Abs ?_;refine Acc ?_;exact AI (res2 rfl rfl rfl) rsubZ selZ ⟨rfl,rfl⟩
 have hil:i < l.length:=by omega
 obtain ⟨g1,g2⟩:=tog_get l i _ (List.getElem?_eq_getElem hil)
 rw [decide_eq_true (show p < 2 * l.length by omega)]
 obtain ⟨b4,o4,rfl,hrd,x0,x1⟩:=spRow hr (List.getElem?_eq_getElem hil)
 rcases hod with ⟨ho,hp2⟩ | ⟨ho,hp2⟩
 ·have hR:(tog l).getD p 0 = l[i].2:=by rw [List.getD_eq_getElem?_getD,hp2,g2]; rfl
  rw [hR];rw [ho] at ct ct0 ct1 ct2 ⊢
  generalize l[i] = x at hrd x0 x1
  refine Acc ?_;refine Aau ?_;refine AC ?_
  refine A5 (.q 0 (.q 1 (.q 2 (.q 3 (.q 4 (.q 5 (.q 6 (.q 7 (.q 8 (.q 9 (.q 10 .nil))))))))))) [] rfl (by kernel_rfl) selZ ?_
  refine Ae ?_;refine DX ?_;refine C3 ?_;refine Adx ?_;refine AM rfl ?_;refine Aad ?_;refine Adi ?_;refine Aab ?_;refine AN rfl ?_;refine AC ?_
  refine A5 (.q 0 (.q 1 (.q 2 (.q 3 (.q 4 (.q 5 (.q 6 (.q 7 (.q 8 (.q 9 (.q 10 (.q 11 (.q 12 .nil))))))))))))) [] rfl (by kernel_rfl) selZ ?_
  refine Ae ?_;refine BJ ?_;refine Acb ?_;refine BT ?_;refine Adx ?_
  skip
  exact AI (res2 rfl rfl rfl) rsubZ selZ ⟨rfl,rfl⟩
 ·have hR:(tog l).getD p 0 = l[i].1:=by rw [List.getD_eq_getElem?_getD,hp2,g1]; rfl
  rw [hR];rw [ho] at ct ct0 ct1 ct2 ⊢
  generalize l[i] = x at hrd x0 x1
  refine Acc ?_;refine Aau ?_;refine AC ?_
  refine A5 (.q 0 (.q 1 (.q 2 (.q 3 (.q 4 (.q 5 (.q 6 (.q 7 (.q 8 (.q 9 (.q 10 .nil))))))))))) [] rfl (by kernel_rfl) selZ ?_
  refine Ae ?_;refine DX ?_;refine C3 ?_;refine Adx ?_;refine AM rfl ?_;refine Aad ?_;refine Adi ?_;refine Aab ?_;refine Aaf ?_;refine A3 ?_;refine AC ?_
  refine A5 (.q 0 (.q 1 (.q 2 (.q 3 (.q 4 (.q 5 (.q 6 (.q 7 (.q 8 (.q 9 (.q 10 (.q 11 (.q 12 .nil))))))))))))) [] rfl (by kernel_rfl) selZ ?_
  refine Ae ?_;refine BJ ?_;refine Aco ?_;refine BT ?_;refine Adx ?_
  skip
  exact AI (res2 rfl rfl rfl) rsubZ selZ ⟨rfl,rfl⟩
set_option maxHeartbeats 16000000 in
theorem sidePass_spec (ρ:PH) (v:Value) (l:Iv) (b p:Nat) (t:Int) (hv:SpAt ρ v l) (hl:l.length ≤ 4611686018427387903) (hp:p ≤ 2 * l.length) :
  Eng.Spec Tryz.prog (fv 151) [.pointer (some ⟨b,0,none⟩),int t] [ρ] [sng b (.cells #[v,int ((p / 2:Nat):Int),.bool (oddB p)] 232 (0,0))] (fun r H'=>r = .tuple #[] ∧ H' = [sng b (.cells #[v,int ((stp (tog l) t p / 2:Nat):Int),.bool (oddB (stp (tog l) t p))] 232 (0,0))]):=by
 have hn:=sideNext_spec ρ v l b p hv hl hp
 obtain ⟨q,c,rfl,hr⟩:=hv.val encS_len
 refine spec_in (cap:=[]) Tryz.func151 rfl rfl Tryz.ntmps151 rfl envZ (fun N β=>?_)
 refine Aam ?_;refine A2 hn rfl rfl rdZ rfl rfl ?_;rintro _ rfl
 by_cases h1:p < 2 * l.length
 rotate_left
 ·have hs:stp (tog l) t p = p:=by unfold stp; rw [if_neg (by rw [tog_len]; omega)]
  rw [hs,decide_eq_false h1];refine Acx ?_;refine A9 ?_;refine Abv ?_;refine Aag ?_;exact AI (res0 rfl) rsubZ selZ ⟨rfl,rfl⟩
 rw [decide_eq_true h1]
 by_cases h2:(tog l).getD p 0 = t
 rotate_left
 ·have hs:stp (tog l) t p = p:=by unfold stp; rw [if_neg (fun h=>h2 h.2)]
  rw [hs]
  generalize (tog l).getD p 0 = z at h2
  refine Acx ?_;refine A9 ?_;refine Acq ?_;refine CF ?_;refine AJ ?_;refine Aag ?_;exact AI (res0 rfl) rsubZ selZ ⟨rfl,rfl⟩
 have hs:stp (tog l) t p = p + 1:=by unfold stp; rw [if_pos ⟨by rw [tog_len]; exact h1,h2⟩]
 rw [hs,h2]
 have hod:=oddB_cases p
 have hi2:(p + 1) / 2 = if oddB p = true then p / 2 + 1 else p / 2:=by
  rcases hod with ⟨ho,hp2⟩ | ⟨ho,hp2⟩
  ·rw [if_pos ho]; omega
  ·rw [if_neg (by rw [ho]; simp)]; omega
 rw [hi2,oddB_succ]
 obtain ⟨i,hi⟩:∃ i,p / 2 = i:=⟨_,rfl⟩
 rw [hi] at hod ⊢;clear hn
 rcases hod with ⟨ho,hp2⟩ | ⟨ho,hp2⟩
 ·rw [ho,if_pos rfl]
  refine Acx ?_;refine A9 ?_;refine Acq ?_;refine BF ?_;refine Abe ?_;refine Aam ?_;refine Adi ?_;refine Adg ?_;refine AB ?_;refine Adi ?_;refine A8 ?_;refine BL ?_;refine AG ?_;refine BD ?_; rintro _ _ ⟨rfl,rfl⟩;refine Ady ?_;refine Aaz ?_;refine Adi ?_;refine A9 ?_;refine BL ?_;refine AG ?_;refine BD ?_; rintro _ _ ⟨rfl,rfl⟩;refine AE ?_;exact B8 (res0 rfl) rsubZ selZ ⟨rfl,rfl⟩
 ·rw [ho,if_neg (by simp)]
  refine Acx ?_;refine A9 ?_;refine Acq ?_;refine BF ?_;refine Abe ?_;refine Aam ?_;refine Adi ?_;refine Aai ?_;refine AA ?_;refine Aaz ?_;refine Adi ?_;refine A9 ?_;refine BL ?_;refine AG ?_;refine BD ?_; rintro _ _ ⟨rfl,rfl⟩;refine AE ?_;exact B8 (res0 rfl) rsubZ selZ ⟨rfl,rfl⟩
end Go.Proofs.YtphehihohghfoaaGreat
/- The ends of two sets, in their order: an iterator. -/
namespace Go.Proofs.YtphehihohghfoaaGreat
open Go.Eng Go.Step
set_option maxRecDepth 100000
set_option maxHeartbeats 4000000

def encPt (x:Int × Bool × Bool):List Value:=[int x.1,.agg #[.bool x.2.1,.bool x.2.2]]
set_option maxHeartbeats 32000000 in
theorem points_iter (ρ τ:PH) (va vb:Value) (a b:Iv) (b1 b2:Nat) (ha:SpAt ρ va a) (hb:SpAt τ vb b) (hla:a.length ≤ 1000000) (hlb:b.length ≤ 1000000) :
  Iter Tryz.prog (.func (.func 149) #[] #[.pointer (some ⟨b1,0,none⟩),.pointer (some ⟨b2,0,none⟩)]) [sng b1 (.cells #[va] 91 (0,0)),sng b2 (.cells #[vb] 91 (0,0)),ρ,τ] ((mrg (tog a) false (tog b) false).map encPt):=by
 intro y S Own Inv Stop Ry hy hyl σ0 hI0
 obtain ⟨yl,rfl⟩:=hyl
 have hna:=fun bx p hp=>sideNext_spec ρ va a bx p ha (by omega) hp
 have hnb:=fun bx p hp=>sideNext_spec τ vb b bx p hb (by omega) hp
 have hpa:=fun bx p t hp=>sidePass_spec ρ va a bx p t ha (by omega) hp
 have hpb:=fun bx p t hp=>sidePass_spec τ vb b bx p t hb (by omega) hp
 obtain ⟨qa,ca,rfl,hra⟩:=ha.val encS_len
 obtain ⟨qb,cb,rfl,hrb⟩:=hb.val encS_len
 have c1:rdc (sng b1 (.cells #[.slice qa a.length ca] 91 (0,0))) b1 0 = some (.slice qa a.length ca):=by rw [rdc_sng]; rfl
 have c2:rdc (sng b2 (.cells #[.slice qb b.length cb] 91 (0,0))) b2 0 = some (.slice qb b.length cb):=by rw [rdc_sng]; rfl
 have la:=tog_len a
 have lb:=tog_len b
 simp only [List.cons_append,List.nil_append]
 refine spec_in (cap:=[.pointer (some ⟨b1,0,none⟩),.pointer (some ⟨b2,0,none⟩)]) Tryz.func149 rfl rfl Tryz.ntmps149 rfl envZ (fun N β=>?_)
 refine AC ?_
 refine E9 (X:=Nat × Nat) [0,1,2] (fun _=>True) (fun x=>[(4,.pointer (some ⟨x.1,0,none⟩)),(5,.pointer (some ⟨x.2,0,none⟩))]) (fun x=>sng x.2 (.cells #[.slice qb b.length cb,int ((0 / 2:Nat):Int),.bool (oddB 0)] 232 (0,0)) :: sng x.1 (.cells #[.slice qa a.length ca,int ((0 / 2:Nat):Int),.bool (oddB 0)] 232 (0,0)) :: Own σ0) pickZ ?_ ?_
 ·refine A5 (.q 0 (.q 1 (.q 3 (.q 4 (.l2 2 .e (.q 6 (.l 5 .e (.q 7 .nil))) 5 .e (.l 2 .e (.q 6 (.q 7 .nil)))))))) [] rfl (by kernel_rfl) Sel.nil ?_
  repeat' (first
   | (refine BT ?_)
   | (refine AQ ?_)
   | (refine CQ ?_)
   | (refine A6 ?_)
   | (refine FW ?_ ?_)
   | (refine FR ?_; rintro _ _ ⟨b,rfl,rfl⟩)
   | (refine GS ?_; rintro _ _ ⟨b,rfl,rfl⟩)
   | fail)
  ·refine D0 (_,_) trivial covZ ?_
   exact Sel.refl
  ·refine CH (List.Perm.swap _ _ _) ?_
   refine D0 (_,_) trivial covZ ?_;exact Sel.refl
 rintro ⟨bx,by_⟩ _
 dsimp only
 refine AP ?_
 refine BA [0,1,2,4,5] (X:=Nat × Nat × Nat × S) (0,0,0,σ0) (fun x=>x.1 ≤ (mrg (tog a) false (tog b) false).length ∧ x.2.1 ≤ 2 * a.length ∧ x.2.2.1 ≤ 2 * b.length ∧ (mrg (tog a) false (tog b) false).drop x.1 = mrg ((tog a).drop x.2.1) (oddB x.2.1) ((tog b).drop x.2.2.1) (oddB x.2.2.1) ∧ Inv x.1 x.2.2.2) (fun _=>[]) (fun x=>sng by_ (.cells #[.slice qb b.length cb,int ((x.2.2.1 / 2:Nat):Int),.bool (oddB x.2.2.1)] 232 (0,0)) :: sng bx (.cells #[.slice qa a.length ca,int ((x.2.1 / 2:Nat):Int),.bool (oddB x.2.1)] 232 (0,0)) :: Own x.2.2.2) (fun x=>(2 * a.length - x.2.1) + (2 * b.length - x.2.2.1)) pickZ ⟨by dsimp only; omega,by dsimp only; omega,by dsimp only; omega,rfl,hI0⟩ covZ Sel.refl ?_
 rintro ⟨k,p,q,σ'⟩ ⟨hk,hp,hq,hS,hI⟩
 dsimp only at hk hp hq hS hI ⊢
 have h1:=hna bx p hp
 have h2:=hnb by_ q hq
 refine AP ?_;refine Aad ?_;refine A2 h1 rfl rfl rdZ rfl rfl ?_;rintro _ rfl;refine Acx ?_;refine A2 h2 rfl rfl rdZ rfl rfl ?_;rintro _ rfl
 generalize hm:(tog a).getD p 0 = m
 generalize hn:(tog b).getD q 0 = n
 by_cases h1:p < 2 * a.length
 ·rw [decide_eq_true h1]
  by_cases h2:q < 2 * b.length ∧ n < m
  ·have hX:nxtT (tog a) (tog b) p q = n:=by unfold nxtT; rw [if_pos (by omega),if_pos (by rw [hm,hn]; omega),hn]
   rw [decide_eq_true h2.1]
   have h2n:=h2.2
   have hlive:p < (tog a).length ∨ q < (tog b).length:=by omega
   have hS':=mrg_at (by omega) (by omega) hlive
   have hgo:=stp_go hlive
   rw [hX] at hS' hgo;rw [← hS] at hS'
   obtain ⟨g1,g2,g3⟩:=drop_head hS'
   have p1:=stp_le (A:=tog a) (t:=n) (p:=p) (by omega)
   have q1:=stp_le (A:=tog b) (t:=n) (p:=q) (by omega)
   have hy1:=hy k σ' (encPt (n,oddB (stp (tog a) n p),oddB (stp (tog b) n q))) (by rw [List.getElem?_map,g1]; rfl) hI
   have k1:=hpa bx p n hp
   have k2:=hpb by_ q n hq
   generalize stp (tog a) n p = p' at g2 hy1 k1 p1 hgo
   generalize stp (tog b) n q = q' at g2 hy1 k2 q1 hgo
   refine Ab7 ?_;refine A9 ?_;refine Aaw ?_;refine Abe ?_;refine Abt ?_;refine Aam ?_;refine A9 ?_;refine Aaz ?_;refine Acq ?_;refine BC ?_;refine AL ?_;refine AJ ?_;refine Adg ?_;refine AB ?_;refine Aa7 ?_;refine AB ?_;refine BE k1 rfl rfl takesZ rdZ rfl rfl ?_;rintro _ _ ⟨rfl,rfl⟩;refine AE ?_;refine Abp ?_;refine BE k2 rfl rfl takesZ rdZ rfl rfl ?_;rintro _ _ ⟨rfl,rfl⟩;refine Aaj ?_
   refine A5 (.q 0 (.q 1 (.q 2 (.q 3 (.q 4 (.q 5 (.q 6 (.q 7 (.q 8 (.q 9 (.q 10 (.l 11 .b (.q 12 .nil))))))))))))) [] rfl (by kernel_rfl) Sel.nil ?_
   refine Aa8 ?_;refine Ae ?_
   focus ((refine' CT rfl _ rfl rfl rfl rfl _; rotate_left; (focus (apply DC; exact rfl; exact rfl; exact rfl; exact rfl; exact rfl; exact rfl; exact rfl))))
   refine CP (DS rfl hy1 rfl rfl (Takes.skip (Takes.skip Takes.all)) (fun τ hτ=>.inl (by simp [hτ])) rfl rfl (fun _ _ _ w hw=>hw.sel Sel.nil) ?_)
   rintro _ H' ⟨σ1,rfl,⟨rfl,hI1⟩ | ⟨rfl,hSt⟩⟩
   ·refine EC (H':=_ :: _ :: Own σ1) (List.perm_append_comm (l₂:=[_,_])) ?_
    refine CS ?_;refine Abu ?_;refine A3 ?_
    exact AY (k + 1,p',q',σ1) ⟨by dsimp only; omega,by dsimp only; omega,by dsimp only; omega,g2,hI1⟩ (by dsimp only; omega) covZ Sel.refl
   ·refine CS ?_
    refine Abs ?_
    exact AI (res0 rfl) (fun _ h=>h) Sel.left ⟨σ1,rfl,.inr hSt⟩
  ·have hX:nxtT (tog a) (tog b) p q = m:=by unfold nxtT; rw [if_pos (by omega),if_neg (by rw [hm,hn]; omega),hm]
   by_cases h3:q < 2 * b.length
   ·rw [decide_eq_true h3]
    have h2n:¬ n < m:=fun h=>h2 ⟨h3,h⟩
    have hlive:p < (tog a).length ∨ q < (tog b).length:=by omega
    have hS':=mrg_at (by omega) (by omega) hlive
    have hgo:=stp_go hlive
    rw [hX] at hS' hgo;rw [← hS] at hS'
    obtain ⟨g1,g2,g3⟩:=drop_head hS'
    have p1:=stp_le (A:=tog a) (t:=m) (p:=p) (by omega)
    have q1:=stp_le (A:=tog b) (t:=m) (p:=q) (by omega)
    have hy1:=hy k σ' (encPt (m,oddB (stp (tog a) m p),oddB (stp (tog b) m q))) (by rw [List.getElem?_map,g1]; rfl) hI
    have k1:=hpa bx p m hp
    have k2:=hpb by_ q m hq
    generalize stp (tog a) m p = p' at g2 hy1 k1 p1 hgo
    generalize stp (tog b) m q = q' at g2 hy1 k2 q1 hgo
    refine Ab7 ?_;refine A9 ?_;refine Aaw ?_;refine Abe ?_;refine Abt ?_;refine Aam ?_;refine A9 ?_;refine Aaz ?_;refine Acq ?_;refine AZ ?_;refine AL ?_;refine Abe ?_;refine Abp ?_;refine BE k1 rfl rfl takesZ rdZ rfl rfl ?_;rintro _ _ ⟨rfl,rfl⟩;refine AE ?_;refine Abp ?_;refine BE k2 rfl rfl takesZ rdZ rfl rfl ?_;rintro _ _ ⟨rfl,rfl⟩;refine Aaj ?_
    refine A5 (.q 0 (.q 1 (.q 2 (.q 3 (.q 4 (.q 5 (.q 6 (.q 7 (.q 8 (.q 9 (.q 10 (.l 11 .b (.q 12 .nil))))))))))))) [] rfl (by kernel_rfl) Sel.nil ?_
    refine Aa8 ?_;refine Ae ?_
    focus ((refine' CT rfl _ rfl rfl rfl rfl _; rotate_left; (focus (apply DC; exact rfl; exact rfl; exact rfl; exact rfl; exact rfl; exact rfl; exact rfl))))
    refine CP (DS rfl hy1 rfl rfl (Takes.skip (Takes.skip Takes.all)) (fun τ hτ=>.inl (by simp [hτ])) rfl rfl (fun _ _ _ w hw=>hw.sel Sel.nil) ?_)
    rintro _ H' ⟨σ1,rfl,⟨rfl,hI1⟩ | ⟨rfl,hSt⟩⟩
    ·refine EC (H':=_ :: _ :: Own σ1) (List.perm_append_comm (l₂:=[_,_])) ?_
     refine CS ?_;refine Abu ?_;refine A3 ?_
     exact AY (k + 1,p',q',σ1) ⟨by dsimp only; omega,by dsimp only; omega,by dsimp only; omega,g2,hI1⟩ (by dsimp only; omega) covZ Sel.refl
    ·refine CS ?_
     refine Abs ?_
     exact AI (res0 rfl) (fun _ h=>h) Sel.left ⟨σ1,rfl,.inr hSt⟩
   ·rw [decide_eq_false h3]
    have hlive:p < (tog a).length ∨ q < (tog b).length:=by omega
    have hS':=mrg_at (by omega) (by omega) hlive
    have hgo:=stp_go hlive
    rw [hX] at hS' hgo;rw [← hS] at hS'
    obtain ⟨g1,g2,g3⟩:=drop_head hS'
    have p1:=stp_le (A:=tog a) (t:=m) (p:=p) (by omega)
    have q1:=stp_le (A:=tog b) (t:=m) (p:=q) (by omega)
    have hy1:=hy k σ' (encPt (m,oddB (stp (tog a) m p),oddB (stp (tog b) m q))) (by rw [List.getElem?_map,g1]; rfl) hI
    have k1:=hpa bx p m hp
    have k2:=hpb by_ q m hq
    generalize stp (tog a) m p = p' at g2 hy1 k1 p1 hgo
    generalize stp (tog b) m q = q' at g2 hy1 k2 q1 hgo
    refine Ab7 ?_;refine A9 ?_;refine Aaw ?_;refine Abe ?_;refine Abt ?_;refine Aam ?_;refine A9 ?_;refine Aaz ?_;refine Ads ?_;refine Abe ?_;refine Abp ?_;refine BE k1 rfl rfl takesZ rdZ rfl rfl ?_;rintro _ _ ⟨rfl,rfl⟩;refine AE ?_;refine Abp ?_;refine BE k2 rfl rfl takesZ rdZ rfl rfl ?_;rintro _ _ ⟨rfl,rfl⟩;refine Aaj ?_
    refine A5 (.q 0 (.q 1 (.q 2 (.q 3 (.q 4 (.q 5 (.q 6 (.q 7 (.q 8 (.q 9 (.q 10 (.l 11 .b (.q 12 .nil))))))))))))) [] rfl (by kernel_rfl) Sel.nil ?_
    refine Aa8 ?_;refine Ae ?_
    focus ((refine' CT rfl _ rfl rfl rfl rfl _; rotate_left; (focus (apply DC; exact rfl; exact rfl; exact rfl; exact rfl; exact rfl; exact rfl; exact rfl))))
    refine CP (DS rfl hy1 rfl rfl (Takes.skip (Takes.skip Takes.all)) (fun τ hτ=>.inl (by simp [hτ])) rfl rfl (fun _ _ _ w hw=>hw.sel Sel.nil) ?_)
    rintro _ H' ⟨σ1,rfl,⟨rfl,hI1⟩ | ⟨rfl,hSt⟩⟩
    ·refine EC (H':=_ :: _ :: Own σ1) (List.perm_append_comm (l₂:=[_,_])) ?_
     refine CS ?_;refine Abu ?_;refine A3 ?_
     exact AY (k + 1,p',q',σ1) ⟨by dsimp only; omega,by dsimp only; omega,by dsimp only; omega,g2,hI1⟩ (by dsimp only; omega) covZ Sel.refl
    ·refine CS ?_
     refine Abs ?_
     exact AI (res0 rfl) (fun _ h=>h) Sel.left ⟨σ1,rfl,.inr hSt⟩
 ·rw [decide_eq_false h1]
  by_cases h2:q < 2 * b.length
  ·have hX:nxtT (tog a) (tog b) p q = n:=by unfold nxtT; rw [if_neg (by omega),hn]
   rw [decide_eq_true h2]
   have hlive:p < (tog a).length ∨ q < (tog b).length:=by omega
   have hS':=mrg_at (by omega) (by omega) hlive
   have hgo:=stp_go hlive
   rw [hX] at hS' hgo;rw [← hS] at hS'
   obtain ⟨g1,g2,g3⟩:=drop_head hS'
   have p1:=stp_le (A:=tog a) (t:=n) (p:=p) (by omega)
   have q1:=stp_le (A:=tog b) (t:=n) (p:=q) (by omega)
   have hy1:=hy k σ' (encPt (n,oddB (stp (tog a) n p),oddB (stp (tog b) n q))) (by rw [List.getElem?_map,g1]; rfl) hI
   have k1:=hpa bx p n hp
   have k2:=hpb by_ q n hq
   generalize stp (tog a) n p = p' at g2 hy1 k1 p1 hgo
   generalize stp (tog b) n q = q' at g2 hy1 k2 q1 hgo
   refine Ab7 ?_;refine A9 ?_;refine Aaz ?_;refine A9 ?_;refine AL ?_;refine Aai ?_;refine Abt ?_;refine Aam ?_;refine A9 ?_;refine Ach ?_;refine AL ?_;refine Adg ?_;refine AB ?_;refine Aa7 ?_;refine AB ?_;refine BE k1 rfl rfl takesZ rdZ rfl rfl ?_;rintro _ _ ⟨rfl,rfl⟩;refine AE ?_;refine Abp ?_;refine BE k2 rfl rfl takesZ rdZ rfl rfl ?_;rintro _ _ ⟨rfl,rfl⟩;refine Aaj ?_
   refine A5 (.q 0 (.q 1 (.q 2 (.q 3 (.q 4 (.q 5 (.q 6 (.q 7 (.q 8 (.q 9 (.q 10 (.l 11 .b (.q 12 .nil))))))))))))) [] rfl (by kernel_rfl) Sel.nil ?_
   refine Aa8 ?_;refine Ae ?_
   focus ((refine' CT rfl _ rfl rfl rfl rfl _; rotate_left; (focus (apply DC; exact rfl; exact rfl; exact rfl; exact rfl; exact rfl; exact rfl; exact rfl))))
   refine CP (DS rfl hy1 rfl rfl (Takes.skip (Takes.skip Takes.all)) (fun τ hτ=>.inl (by simp [hτ])) rfl rfl (fun _ _ _ w hw=>hw.sel Sel.nil) ?_)
   rintro _ H' ⟨σ1,rfl,⟨rfl,hI1⟩ | ⟨rfl,hSt⟩⟩
   ·refine EC (H':=_ :: _ :: Own σ1) (List.perm_append_comm (l₂:=[_,_])) ?_
    refine CS ?_;refine Abu ?_;refine A3 ?_
    exact AY (k + 1,p',q',σ1) ⟨by dsimp only; omega,by dsimp only; omega,by dsimp only; omega,g2,hI1⟩ (by dsimp only; omega) covZ Sel.refl
   ·refine CS ?_
    refine Abs ?_
    exact AI (res0 rfl) (fun _ h=>h) Sel.left ⟨σ1,rfl,.inr hSt⟩
  ·rw [decide_eq_false h2]
   have hpe:p = (tog a).length:=by omega
   have hqe:q = (tog b).length:=by omega
   rw [hpe,hqe,mrg_end] at hS
   have hke:k = (mrg (tog a) false (tog b) false).length:=by
    have:=List.drop_eq_nil_iff.1 hS
    omega
   refine Ab7 ?_;refine A9 ?_;refine Aaz ?_;refine A9 ?_;refine AL ?_;refine Aag ?_
   refine AI (res0 rfl) (fun _ h=>h) (Sel.skip (Sel.skip Sel.refl)) ⟨σ',rfl,.inl ?_⟩
   rw [List.length_map,← hke];exact hI
end Go.Proofs.YtphehihohghfoaaGreat
