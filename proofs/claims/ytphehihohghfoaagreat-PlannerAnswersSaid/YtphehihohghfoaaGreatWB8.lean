/- Texts of this proof, one after the other; no conditions. -/
import Derived.Test.YtphehihohghfoaaGreatRows
import Derived.Test.YtphehihohghfoaaGreatWB7
import Derived.Test.YtphehihohghfoaaGreatWB3
import Derived.Test.YtphehihohghfoaaGreatWB1
import Derived.Test.YtphehihohghfoaaGreatWB6
import Derived.Test.YtphehihohghfoaaGreatWB5
set_option linter.all false
/- The arcs, one after the other. -/
namespace Go.Proofs.YtphehihohghfoaaGreat
open Go.Eng Go.Step
set_option maxRecDepth 100000
set_option maxHeartbeats 4000000

def encEA (x:EA):List Value:=[.agg #[int x.a.f,int x.a.t,int x.a.c,int x.c,int x.t]]
theorem arcs_spec (bw:Nat) :
  Eng.Spec Tryz.prog (fv 72) [.pointer (some ⟨bw,0,none⟩)] [] [] (fun r H'=>∃ c1,r = .func (.func 102) #[] #[.pointer (some ⟨c1,0,none⟩)] ∧ H' = [sng c1 (.cells #[.pointer (some ⟨bw,0,none⟩)] 125 (0,0))]):=by
 refine spec_in (cap:=[]) Tryz.func72 rfl rfl Tryz.ntmps72 rfl envZ (fun N β=>?_)
 refine AD ?_;refine AA ?_;refine BI (DE rfl rfl) rfl rfl rfl ?_;rintro _ _ ⟨c1,rfl,rfl⟩;refine AC ?_;refine AE ?_;refine AD ?_;refine AA ?_;refine CF ?_;refine AC ?_;refine AE ?_;exact AI (res1 rfl rfl) rsubZ selZ ⟨c1,rfl,rfl⟩
theorem numAt_get {d:Dm} {N:Nat} {M:List (List Int × Value)} (h:NumAt d N d.r M) {n t:Int} (h0:0 ≤ n) (hn:n < N) (h1:d.r ≤ t) (h2:t ≤ d.e):mgetS [n,t] M = some (int (vtx d n t)):=by
 rw [h.2,if_pos (by omega)]
set_option maxHeartbeats 64000000 in
theorem arcs_iter {ρ τ σ υ:PH} {pq pc pb ph:Option Addr} {kq kc kb kh:Nat} {qs:List Int} {cs:List Ct} {bs:List Bk} {hs:List Hd} (hT:TbAt ρ τ σ υ pq pc pb ph kq kc kb kh qs cs bs hs) (bw bm c1 kp:Nat) (pl:Option Addr) (χ:PH) (M:List (List Int × Value)) (d:Dm) (h:VOk qs cs bs hs d) (h0:chkB qs cs bs = 0) (hpl:SlE encS 2 χ (.slice pl (placesA d qs.length).length kp) (placesA d qs.length)) (hM:NumAt d qs.length d.r M) :
  Iter Tryz.prog (.func (.func 102) #[] #[.pointer (some ⟨c1,0,none⟩)]) [sng c1 (.cells #[.pointer (some ⟨bw,0,none⟩)] 125 (0,0)),sng bw (.cells #[.slice pq qs.length kq,.slice pc cs.length kc,.slice pb bs.length kb,.slice ph hs.length kh,int d.s,int d.d,int d.v,int d.r,int d.e,.slice pl (placesA d qs.length).length kp,.map (some bm)] 134 (0,0)),sng bm (mapS M),χ,ρ,τ,σ,υ] ((arcsE qs cs bs hs d).map encEA):=by
 intro y S Own Inv Stop Ry hy hyl σ0 hI0
 obtain ⟨yl,rfl⟩:=hyl
 have hdm:=h.dm
 unfold okDm at hdm
 have hnq:=h.nq
 have hnc:=h.nc
 have hMl:=hM.1
 have hW:2 ≤ (wd d).toNat ∧ (wd d).toNat = (d.e - d.r).toNat + 1:=by unfold wd; omega
 have hplen:=placesA_len (d:=d) (by omega) qs.length
 have hpb:(placesA d qs.length).length ≤ 1616:=by
  have:=h.vs
  unfold vsN at this;omega
 obtain ⟨_,_,ep,hrp⟩:=hpl.val encS_len
 simp only [Value.slice.injEq] at ep
 obtain ⟨rfl,_,rfl⟩:=ep
 have w0:rdc (sng bw (.cells #[.slice pq qs.length kq,.slice pc cs.length kc,.slice pb bs.length kb,.slice ph hs.length kh,int d.s,int d.d,int d.v,int d.r,int d.e,.slice pl (placesA d qs.length).length kp,.map (some bm)] 134 (0,0))) bw 0 = some (.slice pq qs.length kq):=by rw [rdc_sng]; rfl
 have w1:rdc (sng bw (.cells #[.slice pq qs.length kq,.slice pc cs.length kc,.slice pb bs.length kb,.slice ph hs.length kh,int d.s,int d.d,int d.v,int d.r,int d.e,.slice pl (placesA d qs.length).length kp,.map (some bm)] 134 (0,0))) bw 1 = some (.slice pc cs.length kc):=by rw [rdc_sng]; rfl
 have w2:rdc (sng bw (.cells #[.slice pq qs.length kq,.slice pc cs.length kc,.slice pb bs.length kb,.slice ph hs.length kh,int d.s,int d.d,int d.v,int d.r,int d.e,.slice pl (placesA d qs.length).length kp,.map (some bm)] 134 (0,0))) bw 2 = some (.slice pb bs.length kb):=by rw [rdc_sng]; rfl
 have w3:rdc (sng bw (.cells #[.slice pq qs.length kq,.slice pc cs.length kc,.slice pb bs.length kb,.slice ph hs.length kh,int d.s,int d.d,int d.v,int d.r,int d.e,.slice pl (placesA d qs.length).length kp,.map (some bm)] 134 (0,0))) bw 3 = some (.slice ph hs.length kh):=by rw [rdc_sng]; rfl
 have w4:rdc (sng bw (.cells #[.slice pq qs.length kq,.slice pc cs.length kc,.slice pb bs.length kb,.slice ph hs.length kh,int d.s,int d.d,int d.v,int d.r,int d.e,.slice pl (placesA d qs.length).length kp,.map (some bm)] 134 (0,0))) bw 4 = some (int d.s):=by rw [rdc_sng]; rfl
 have w5:rdc (sng bw (.cells #[.slice pq qs.length kq,.slice pc cs.length kc,.slice pb bs.length kb,.slice ph hs.length kh,int d.s,int d.d,int d.v,int d.r,int d.e,.slice pl (placesA d qs.length).length kp,.map (some bm)] 134 (0,0))) bw 5 = some (int d.d):=by rw [rdc_sng]; rfl
 have w6:rdc (sng bw (.cells #[.slice pq qs.length kq,.slice pc cs.length kc,.slice pb bs.length kb,.slice ph hs.length kh,int d.s,int d.d,int d.v,int d.r,int d.e,.slice pl (placesA d qs.length).length kp,.map (some bm)] 134 (0,0))) bw 6 = some (int d.v):=by rw [rdc_sng]; rfl
 have w7:rdc (sng bw (.cells #[.slice pq qs.length kq,.slice pc cs.length kc,.slice pb bs.length kb,.slice ph hs.length kh,int d.s,int d.d,int d.v,int d.r,int d.e,.slice pl (placesA d qs.length).length kp,.map (some bm)] 134 (0,0))) bw 7 = some (int d.r):=by rw [rdc_sng]; rfl
 have w8:rdc (sng bw (.cells #[.slice pq qs.length kq,.slice pc cs.length kc,.slice pb bs.length kb,.slice ph hs.length kh,int d.s,int d.d,int d.v,int d.r,int d.e,.slice pl (placesA d qs.length).length kp,.map (some bm)] 134 (0,0))) bw 8 = some (int d.e):=by rw [rdc_sng]; rfl
 have w9:rdc (sng bw (.cells #[.slice pq qs.length kq,.slice pc cs.length kc,.slice pb bs.length kb,.slice ph hs.length kh,int d.s,int d.d,int d.v,int d.r,int d.e,.slice pl (placesA d qs.length).length kp,.map (some bm)] 134 (0,0))) bw 9 = some (.slice pl (placesA d qs.length).length kp):=by rw [rdc_sng]; rfl
 have w10:rdc (sng bw (.cells #[.slice pq qs.length kq,.slice pc cs.length kc,.slice pb bs.length kb,.slice ph hs.length kh,int d.s,int d.d,int d.v,int d.r,int d.e,.slice pl (placesA d qs.length).length kp,.map (some bm)] 134 (0,0))) bw 10 = some (.map (some bm)):=by rw [rdc_sng]; rfl
 have wp:RdP (sng bw (.cells #[.slice pq qs.length kq,.slice pc cs.length kc,.slice pb bs.length kb,.slice ph hs.length kh,int d.s,int d.d,int d.v,int d.r,int d.e,.slice pl (placesA d qs.length).length kp,.map (some bm)] 134 (0,0))) bw 0 [.slice pq qs.length kq,.slice pc cs.length kc]:=rdP_sng (xs:=[.slice pq qs.length kq,.slice pc cs.length kc,.slice pb bs.length kb,.slice ph hs.length kh,int d.s,int d.d,int d.v,int d.r,int d.e,.slice pl (placesA d qs.length).length kp,.map (some bm)]) rfl
 have v1:rdc (sng c1 (.cells #[.pointer (some ⟨bw,0,none⟩)] 125 (0,0))) c1 0 = some (.pointer (some ⟨bw,0,none⟩)):=by rw [rdc_sng]; rfl
 simp only [List.cons_append,List.nil_append]
 refine spec_in (cap:=[.pointer (some ⟨c1,0,none⟩)]) Tryz.func102 rfl rfl Tryz.ntmps102 rfl envZ (fun N β=>?_)
 refine AD ?_;refine AA ?_;refine BI (DE rfl rfl) rfl rfl rfl ?_;rintro _ _ ⟨b2,rfl,rfl⟩;refine AS (ρ:=sng b2 _) takeZ ?_
 have v2:rdc (sng b2 (.cells #[yv yl] 185 (0,0))) b2 0 = some (yv yl):=by rw [rdc_sng]; rfl
 refine AE ?_;refine AD ?_;refine AD ?_;refine AA ?_;refine AF ?_;refine BZ ?_;refine AG ?_;refine AF ?_;refine AV ?_;refine AB ?_;refine AE ?_;refine AP ?_
 refine BB [0,1,2,13,14] (X:=Nat × S) (0,σ0) (fun z=>z.1 ≤ (placesA d qs.length).length ∧ Inv (z.1 - z.1 / (wd d).toNat) z.2) (fun z=>[(15,int z.1)]) (fun z=>Own z.2) (fun z=>(placesA d qs.length).length - z.1) pickZ ⟨by dsimp only; omega,by dsimp only; rw [Nat.zero_sub]; exact hI0⟩ covZ Sel.refl ?_
 rintro ⟨k,σ'⟩ ⟨hk,hI⟩
 dsimp only at hk hI ⊢
 by_cases hlt:k < (placesA d qs.length).length
 ·obtain ⟨n,t,hn,ht1,ht2,hkv,hkn⟩:=place_of (d:=d) (by omega) (k:=k) (N:=qs.length) (by omega)
  have hx:=placesA_get (d:=d) (by omega) ht1 ht2 hn
  rw [← hkv,Int.toNat_natCast] at hx
  have hdiv:k / (wd d).toNat = n:=by
   rw [hkn,Nat.mul_comm,Nat.mul_add_div (by omega),Nat.div_eq_of_lt (by omega),Nat.add_zero]
  obtain ⟨b6,o6,rfl,hRd6,y0,y1⟩:=spRow hrp hx
  have hl1:=numAt_get hM (n:=n) (t:=t) (by omega) (by omega) ht1 ht2
  have hroom:=exRoom_spec hT bw bm (.slice (some ⟨b6,o6,none⟩) (placesA d qs.length).length kp) d h n t hn
  rw [hdiv] at hI
  by_cases hte:t = d.e
  ·have hnext:(k + 1) - (k + 1) / (wd d).toNat = k - n:=by
    have e:k + 1 = (n + 1) * (wd d).toNat:=by rw [Nat.add_mul,Nat.one_mul]; omega
    rw [e,Nat.mul_div_cancel _ (by omega)]
    omega
   refine AD ?_;refine AA ?_;refine BD ?_;refine AE ?_;refine AD ?_;refine AO rfl ?_;refine AK ?_;refine AD ?_;refine AP ?_;refine AD ?_;refine AA ?_;refine A3 ?_;refine AT ?_;refine A2 ?_; rintro _ _ ⟨b,rfl,rfl⟩;refine AX ?_; rintro _ _ ⟨rfl,rfl⟩;refine AE ?_;refine AD ?_;refine AD ?_
   revert b; intro b4
   refine A6 (.q 0 (.q 1 (.q 2 (.q 3 (.q 4 (.q 5 (.q 6 (.q 7 .nil)))))))) [] rfl (by kernel_rfl) Sel.nil ?_
   refine A0 ?_;refine AR ?_;refine AR ?_;refine BA ?_;refine A0 ?_;refine BX ?_;refine AR ?_;refine EW ?_;refine A8 ?_;refine AO rfl ?_;refine A5 rfl ?_;refine AA ?_;refine A7 ?_;refine AB ?_;refine AE ?_
   exact AU (k + 1,σ') ⟨by dsimp only; omega,by dsimp only; rw [hnext]; exact hI⟩ (by dsimp only; omega) covZ (Sel.skip Sel.refl)
  have hl2:=numAt_get hM (n:=n) (t:=t + 1) (by omega) (by omega) (by omega) (by omega)
  have hnm:k - n = n * (d.e - d.r).toNat + (t - d.r).toNat:=by
   rw [hkn,hW.2,Nat.mul_add,Nat.mul_one];omega
  have hnext:(k + 1) - (k + 1) / (wd d).toNat = k - n + 1:=by
   have e:(k + 1) / (wd d).toNat = n:=by
    rw [show k + 1 = (wd d).toNat * n + ((t - d.r).toNat + 1) by rw [Nat.mul_comm]; omega,Nat.mul_add_div (by omega),Nat.div_eq_of_lt (by omega),Nat.add_zero]
   have:n ≤ k:=by
    have:=Nat.le_mul_of_pos_right n (show 0 < (wd d).toNat by omega)
    omega
   rw [e];omega
  have hat:=arcs_wait (qs:=qs) (cs:=cs) (bs:=bs) (hs:=hs) hn ht1 (show t < d.e by omega)
  rw [← hnm] at hat
  have hya:=hy _ σ' (encEA ⟨⟨vtx d n t,vtx d n (t + 1),roomT qs hs d n t⟩,-1,t⟩) (by rw [List.getElem?_map,hat]; rfl) hI
  refine AD ?_;refine AA ?_;refine BD ?_;refine AE ?_;refine AD ?_;refine AO rfl ?_;refine AK ?_;refine AD ?_;refine AP ?_;refine AD ?_;refine AA ?_;refine A3 ?_;refine AT ?_;refine A2 ?_; rintro _ _ ⟨b,rfl,rfl⟩;refine AX ?_; rintro _ _ ⟨rfl,rfl⟩;refine AE ?_;refine AD ?_;refine AD ?_
  revert b; intro b4
  refine A6 (.q 0 (.q 1 (.q 2 (.q 3 (.q 4 (.q 5 (.q 6 (.q 7 .nil)))))))) [] rfl (by kernel_rfl) Sel.nil ?_
  refine A0 ?_;refine AR ?_;refine AR ?_;refine BA ?_;refine A0 ?_;refine BX ?_;refine AR ?_;refine DM ?_;refine A8 ?_;refine AN rfl ?_;refine AK ?_;refine AD ?_
  refine E9 (X:=Nat) [0,1,2,4,13,14,15] (fun _=>True) (fun x=>[(5,.pointer (some ⟨x,0,none⟩))]) (fun x=>sng x (.cells #[int (vtx d n t),int (vtx d n (t + 1)),int (roomT qs hs d n t)] 141 (0,0)) :: sng b4 (.cells #[int (n:Int),int t] 130 (0,0)) :: Own σ') pickZ ?_ ?_
  ·refine A6 (.q 0 (.q 1 (.q 2 (.q 3 (.q 4 (.q 5 (.q 6 (.q 7 (.q 8 (.q 9 (.q 10 (.q 11 (.q 12 (.q 13 (.q 14 (.q 15 (.q 16 (.q 17 (.q 18 (.l2 19 .e (.q 20 (.l 21 .e (.l 22 .b .nil))) 21 .e (.l 19 .e (.q 20 (.l 22 .b .nil))))))))))))))))))))))) [] rfl (by kernel_rfl) Sel.nil ?_
   repeat' (first
    | (refine AR ?_)
    | (refine A0 ?_)
    | (refine BA ?_)
    | (refine CW ?_)
    | (refine BL ?_)
    | (refine CD ?_)
    | (focus ((refine' CV rfl _ rfl rfl rfl rfl _; rotate_left; (focus (first | exact C1 2 [(n:Int),t] rfl rfl rfl ⟨by kernel_rfl,by kernel_rfl⟩ rfl hMl rfl hl1 (mapAtS_rd memZ) | exact C1 2 [(n:Int),t + 1] rfl rfl rfl ⟨by kernel_rfl,by kernel_rfl⟩ rfl hMl rfl hl2 (mapAtS_rd memZ))))))
    | (focus ((refine CB rfl hroom rfl rfl rdZ rfl rfl ?_; rintro _ rfl)))
    | (refine A8 ?_)
    | (refine FS ?_ ?_)
    | (focus ((refine CL (CB rfl hroom rfl rfl rdZ rfl rfl ?_); rintro _ rfl)))
    | (focus ((refine CL ?_; refine' FJ rfl _ rfl rfl _ _; rotate_left; (focus (apply DC; exact rfl; exact rfl; exact takeZ; exact (by (repeat (first | exact (fun v hv=>absurd hv List.not_mem_nil) | (refine List.forall_mem_cons.2 ⟨?_,?_⟩; (focus (first | exact rfl | assumption))))); first | done | fail); exact rfl; exact rfl)); (focus (rintro _ _ ⟨_,rfl⟩ w hw; exact hw.sel Sel.nil)); rintro _ _ ⟨rfl,rfl⟩)))
    | (refine DI ?_; rintro _ _ ⟨b,rfl,rfl⟩)
    | (refine E0 ?_; rintro _ _ ⟨b,rfl,rfl⟩)
    | fail)
   all_goals (refine D7 _ trivial covZ Sel.refl)
  rintro b5 _;refine AD ?_;refine AA ?_;refine AF ?_;refine AT ?_;refine AG ?_;refine AF ?_;refine CR (C9 (out:=[int (vtx d n t),int (vtx d n (t + 1)),int (roomT qs hs d n t),int (-1),int t]) rfl rfl rfl rfl rfl) rfl rfl rfl ?_
  refine BG hya rfl rfl (Takes.skip (Takes.skip Takes.all)) (fun τ hτ=>.inl (by simp [hτ])) rfl rfl ?_
  rintro _ H' ⟨σ3,rfl,⟨rfl,hI3⟩ | ⟨rfl,hSt⟩⟩
  ·refine CS (H':=_ :: _ :: Own σ3) (List.perm_append_comm (l₂:=[_,_])) ?_
   refine BJ ?_;refine AE ?_;refine AN rfl ?_;refine AK ?_;refine AZ ?_;refine AA ?_;refine A7 ?_;refine AB ?_;refine AE ?_
   exact AU (k + 1,σ3) ⟨by dsimp only; omega,by dsimp only; rw [hnext]; exact hI3⟩ (by dsimp only; omega) covZ (Sel.skip (Sel.skip Sel.refl))
  ·refine BJ ?_
   refine AE ?_;refine AO rfl ?_
   exact AI (res0 rfl) (fun _ h=>List.mem_cons_of_mem _ h) Sel.left ⟨σ3,rfl,.inr hSt⟩
 have hke:k = (placesA d qs.length).length:=by omega
 subst hke
 have hcnt:(placesA d qs.length).length - (placesA d qs.length).length / (wd d).toNat = (waitA qs hs d qs.length).length:=by
  have e:(placesA d qs.length).length = qs.length * (wd d).toNat:=by
   have hw:(((wd d).toNat:Nat):Int) = wd d:=by unfold wd; omega
   have:(((placesA d qs.length).length:Nat):Int) = ((qs.length * (wd d).toNat:Nat):Int):=by rw [hplen,Int.natCast_mul,hw]
   omega
  rw [e,Nat.mul_div_cancel _ (by omega),waitA_len,hW.2,Nat.mul_add,Nat.mul_one]
  omega
 rw [hcnt] at hI;refine BV ?_;refine AD ?_;refine AA ?_;refine AY ?_;refine AE ?_;refine AD ?_;refine AN rfl ?_;refine A5 rfl ?_;refine AD ?_;refine AA ?_;refine AF ?_;refine BZ ?_;refine AG ?_;refine AG ?_;refine AG ?_;refine AF ?_;refine AV ?_;refine AB ?_;refine AE ?_;refine AP ?_
 refine D5 [0,1,2,61,62] (X:=Nat × S × (List Nat × PH)) (0,σ',([],emp)) (fun x=>x.2.2.1.map mk) (fun x=>x.1 ≤ cs.length ∧ Inv ((waitA qs hs d qs.length).length + (conA cs bs d x.1).length) x.2.1 ∧ MkIn x.2.2.2 x.2.2.1) (fun x=>[(63,int x.1)]) (fun x=>x.2.2.2 :: Own x.2.1) (fun x=>cs.length - x.1) pickZ rfl ⟨by dsimp only; omega,hI,MkIn.nil⟩ covZ Sel.refl ?_
 rintro ⟨i,σ4,ms,μ⟩ ⟨hi,hI4,hMk⟩
 dsimp only at hi hI4 hMk ⊢
 by_cases hlt2:i < cs.length
 rotate_left
 ·have hie:i = cs.length:=by omega
  subst hie;refine AD ?_;refine AA ?_;refine AY ?_;refine AE ?_;refine AD ?_;refine AN rfl ?_;refine A5 rfl ?_
  refine GF hMk Take.here (res0 rfl) (fun _ h=>List.mem_cons_of_mem _ h) Sel.refl ⟨σ4,rfl,.inl ?_⟩
  rw [List.length_map];unfold arcsE;rw [List.length_append];exact hI4
 have hc:=List.getElem?_eq_getElem hlt2
 have hct:=h.ct _ (List.getElem_mem hlt2)
 have hcn:=conA_next cs bs d hc
 obtain ⟨b8,o8,rfl,hRd8⟩:=ctRow hT.rc hc
 have hticks:=fun c1' c2'=>ticks_iter hT bw bm c1' c2' (.slice pl (placesA d qs.length).length kp) d h h0 i _ hc
 have hat:=fun (j:Nat) (t:Int) (ht:(tickL d.r d.e cs[i].g (freeC cs bs i))[j]? = some t)=>arcs_con (qs:=qs) (hs:=hs) hc ht
 have hfree:=(h.free hc).2.2
 generalize cs[i] = x at hc hct hcn hRd8 hticks hat hfree
 refine AD ?_;refine AA ?_;refine BD ?_;refine AE ?_;refine AD ?_;refine AO rfl ?_;refine AK ?_;refine AD ?_;refine AP ?_;refine AD ?_;refine AA ?_;refine AB ?_;refine A3 ?_;refine AT ?_;refine B6 ?_; rintro _ _ ⟨b,rfl,rfl⟩;refine A2 ?_; rintro _ _ ⟨b,rfl,rfl⟩;refine BF ?_; rintro _ _ ⟨rfl,rfl⟩;refine AX ?_; rintro _ _ ⟨rfl,rfl⟩;refine AE ?_;refine AD ?_;refine AA ?_;refine AF ?_;refine AF ?_
 revert b; intro b7
 revert b; intro b6
 refine BG (ticks_spec bw i) rfl rfl Takes.nil (fun τ hτ=>by simp at hτ) rfl rfl ?_
 rintro _ _ ⟨c3,c4,rfl,rfl⟩;refine AS (ρ:=sng c3 _) takeZ ?_;refine AS (ρ:=sng c4 _) takeZ ?_;refine AS (ρ:=sng b6 _) takeZ ?_;refine AS (ρ:=sng b7 _) takeZ ?_
 have g6:rdc (sng b6 (.cells #[int (i:Int)] 3 (0,0))) b6 0 = some (int (i:Int)):=by rw [rdc_sng]; rfl
 have f0:rdc (sng b7 (.cells #[int x.f,int x.t,int x.s,int x.e,int x.r,int x.g,int x.l] 57 (0,0))) b7 0 = some (int x.f):=by rw [rdc_sng]; rfl
 have f1:rdc (sng b7 (.cells #[int x.f,int x.t,int x.s,int x.e,int x.r,int x.g,int x.l] 57 (0,0))) b7 1 = some (int x.t):=by rw [rdc_sng]; rfl
 have f4:rdc (sng b7 (.cells #[int x.f,int x.t,int x.s,int x.e,int x.r,int x.g,int x.l] 57 (0,0))) b7 4 = some (int x.r):=by rw [rdc_sng]; rfl
 have f5:rdc (sng b7 (.cells #[int x.f,int x.t,int x.s,int x.e,int x.r,int x.g,int x.l] 57 (0,0))) b7 5 = some (int x.g):=by rw [rdc_sng]; rfl
 refine AE ?_;refine AP ?_
 refine DD (gf:=135) (cap:=[.pointer (some ⟨c3,0,none⟩),.pointer (some ⟨c4,0,none⟩)]) (ps:=[71]) (X:=S) rfl Tryz.func135 rfl rfl
  (hticks c3 c4) ?_ (fun j σ=>Inv ((waitA qs hs d qs.length).length + (conA cs bs d i).length + j) σ) (fun σ=>Own σ) (fun c σ=>c = .ret ∧ Stop σ) σ4 rfl (Takes.skip Takes.all) hI4 ?_ ?_ ?_
 ·intro σ' hσ
  simp only [List.mem_cons,List.not_mem_nil,or_false] at hσ ⊢
  rcases hσ with h | h | h | h | h | h | h <;> simp [h]
 ·rintro lo r j σ5 vs hvs hI5 hps has hbd hst hpe hfr
  obtain ⟨st,pe,fnn,tm,prm,asg,bdy,df⟩:=r
  simp only at hps has hbd hst hpe hfr;subst hps has hbd hst hpe;rw [List.getElem?_map] at hvs
  obtain ⟨t,ht,rfl⟩:=Option.map_eq_some_iff.1 hvs
  obtain ⟨_,ht1,ht2⟩:=mem_tickL.1 (List.mem_of_getElem? ht)
  have hl1:=numAt_get hM (n:=x.f) (t:=t) hct.1.1 hct.1.2 ht1 (by omega)
  have hl2:=numAt_get hM (n:=x.t) (t:=t + 1 + x.g) hct.2.1.1 hct.2.1.2 (by omega) (by omega)
  have hya:=hy _ σ5 (encEA (conE d x i t)) (by rw [List.getElem?_map,hat j t ht]; rfl) hI5
  refine yield_spec hfr rfl (by intro p hp; simp at hp; omega) putiZ (fun N' β'=>?_)
  dsimp only
  refine AA ?_;refine AC ?_;refine AE ?_;refine CX rfl rfl ?_;refine C7 takeZ rfl ?_;refine AP ?_;refine AD ?_
  refine A6 (.q 0 (.q 1 (.q 2 (.q 3 (.q 4 (.q 5 (.q 6 (.q 7 (.q 8 (.q 9 (.q 10 (.q 11 (.q 12 (.q 13 (.q 14 (.q 15 (.q 16 (.q 17 (.q 18 (.q 19 (.q 20 (.q 21 (.q 22 (.q 23 (.q 24 (.l 25 .e (.l 26 .b .nil))))))))))))))))))))))))))) [] rfl (by kernel_rfl) Sel.nil ?_
  refine AR ?_;refine BA ?_;refine A0 ?_;refine AR ?_;refine A0 ?_;refine AR ?_;refine AJ ?_;refine CD ?_
  focus ((refine' CV rfl _ rfl rfl rfl rfl _; rotate_left; (focus (first | exact C1 2 [x.f,t] rfl rfl rfl ⟨by kernel_rfl,by kernel_rfl⟩ rfl hMl rfl hl1 (mapAtS_rd memZ) | exact C1 2 [x.t,t + 1 + x.g] rfl rfl rfl ⟨by kernel_rfl,by kernel_rfl⟩ rfl hMl rfl hl2 (mapAtS_rd memZ)))))
  refine AR ?_;refine BA ?_;refine A0 ?_;refine AR ?_;refine A0 ?_;refine AR ?_;refine AJ ?_;refine CW ?_;refine A0 ?_;refine AR ?_;refine CW ?_;refine CD ?_
  focus ((refine' CV rfl _ rfl rfl rfl rfl _; rotate_left; (focus (first | exact C1 2 [x.f,t] rfl rfl rfl ⟨by kernel_rfl,by kernel_rfl⟩ rfl hMl rfl hl1 (mapAtS_rd memZ) | exact C1 2 [x.t,t + 1 + x.g] rfl rfl rfl ⟨by kernel_rfl,by kernel_rfl⟩ rfl hMl rfl hl2 (mapAtS_rd memZ)))))
  refine A0 ?_;refine AR ?_;refine CD ?_;refine DI ?_; rintro _ _ ⟨b,rfl,rfl⟩
  focus ((refine CL ?_; refine' FJ rfl _ rfl rfl _ _; rotate_left; (focus (apply DC; exact rfl; exact rfl; exact takeZ; exact (by (repeat (first | exact (fun v hv=>absurd hv List.not_mem_nil) | (refine List.forall_mem_cons.2 ⟨?_,?_⟩; (focus (first | exact rfl | assumption))))); first | done | fail); exact rfl; exact rfl)); (focus (rintro _ _ ⟨_,rfl⟩ w hw; exact hw.sel Sel.nil)); rintro _ _ ⟨rfl,rfl⟩))
  refine A8 ?_
  revert b; intro b9
  refine AD ?_;refine AA ?_;refine AF ?_;refine AT ?_;refine AF ?_;refine AB ?_;refine CR (C9 (out:=[int (vtx d x.f t),int (vtx d x.t (t + 1 + x.g)),int x.r,int (i:Int),int t]) rfl rfl rfl rfl rfl) rfl rfl rfl ?_
  refine BG hya rfl rfl (Takes.skip (Takes.skip Takes.all)) (fun τ hτ=>.inl (by simp [hτ])) rfl rfl ?_
  rintro _ H' ⟨σ6,rfl,⟨rfl,hI6⟩ | ⟨rfl,hSt⟩⟩
  ·refine CS (H':=_ :: _ :: Own σ6) (List.perm_append_comm (l₂:=[_,_])) ?_
   refine BJ ?_;refine AE ?_;refine AN rfl ?_;refine AK ?_;refine AZ ?_;exact B5 (Take.there Take.here) rsubZ (Sel.cons Take.here (Sel.skip Sel.refl)) ⟨σ6,.inl ⟨rfl,hI6,rfl⟩⟩
  ·refine CS (H':=_ :: _ :: Own σ6) (List.perm_append_comm (l₂:=[_,_])) ?_
   refine BJ ?_;refine AE ?_;refine AO rfl ?_;exact E5 (Take.there Take.here) rsubZ (Sel.cons Take.here (Sel.skip Sel.refl)) ⟨σ6,.inr ⟨rfl,.ret,⟨rfl,hSt⟩,rfl⟩⟩
 ·rintro b9 σ5 hI5
  rw [List.length_map] at hI5;refine CS (H':=sng b9 defO :: μ :: Own σ5) (List.Perm.cons _ (List.perm_append_comm (l₂:=[_]))) ?_
  refine D4 (R':=_) (fun _ h=>List.mem_cons_of_mem _ (List.mem_cons_of_mem _ (List.mem_cons_of_mem _ (List.mem_cons_of_mem _ (h))))) ?_
  refine C4 (b:=b9) Take.here (μ:=μ) Take.here hMk ?_
  intro μ2 hM2
  refine AZ ?_;refine AZ ?_;refine AA ?_;refine A7 ?_;refine AB ?_;refine AE ?_
  refine DP (i + 1,σ5,(b9 :: ms,μ2)) rfl ⟨by dsimp only; omega,?_,hM2⟩ (by dsimp only; omega) covZ Sel.refl
  dsimp only
  rw [hcn,← Nat.add_assoc];exact hI5
 ·rintro b9 c σ5 ⟨rfl,hSt⟩
  refine CS (H':=sng b9 defO :: μ :: Own σ5) (List.Perm.cons _ (List.perm_append_comm (l₂:=[_]))) ?_;refine C4 (b:=b9) Take.here (μ:=μ) Take.here hMk ?_
  intro μ2 hM2
  exact D3 (ms:=b9 :: ms) hM2 Take.here (res0 rfl) (fun _ h=>List.mem_cons_of_mem _ (List.mem_cons_of_mem _ (List.mem_cons_of_mem _ (List.mem_cons_of_mem _ (List.mem_cons_of_mem _ (h)))))) Sel.refl ⟨σ5,rfl,.inr hSt⟩
end Go.Proofs.YtphehihohghfoaaGreat
/- Check, ends and the like: what they answer. -/
namespace Go.Proofs.YtphehihohghfoaaGreat
open Go.Eng Go.Flow
set_option maxRecDepth 100000
set_option maxHeartbeats 4000000

def encA (a:Arc):List Value:=[int a.f,int a.t,int a.c]
theorem encA_len (a:Arc):(encA a).length = 3:=rfl
abbrev ArcsAt (ρ:PH) (v:Value) (l:List Arc):Prop:=SlE encA 3 ρ v l
theorem arcRow {ρ:PH} {p:Option Addr} {l:List Arc} (h:RowsE encA 3 ρ p l) {i:Nat} {x:Arc} (hx:l[i]? = some x) :
  ∃ b o,p = some ⟨b,o,none⟩ ∧ RdN ρ b (o + i * 3) [int x.f,int x.t,int x.c] ∧ rdc ρ b (o + i * 3) = some (int x.f) ∧ rdc ρ b (o + i * 3 + 1) = some (int x.t) ∧ rdc ρ b (o + i * 3 + 2) = some (int x.c):=by
 obtain ⟨b,o,e,hr⟩:=h i x hx
 exact ⟨b,o,e,hr,hr.get0,hr.get (j:=1) rfl,hr.get (j:=2) rfl⟩

theorem inside_spec (k n:Int):Ans Tryz.prog (fv 82) [int k,int n] [] (fun v=>(v = .bool true ∧ 0 ≤ k ∧ k < n) ∨ (v = .bool false ∧ (k < 0 ∨ n ≤ k))):=by
 refine spec_in (cap:=[]) Tryz.func82 rfl rfl Tryz.ntmps82 rfl envZ (fun N β=>?_)
 repeat' (first
  | (refine AB ?_)
  | (refine AC ?_)
  | (refine AQ ?_)
  | (refine AL ?_)
  | (refine AD ?_)
  | (refine AA ?_)
  | (refine AE ?_)
  | (refine AH rfl rfl rfl ?_)
  | (focus ((refine B9 rfl rfl (cmp_lt _ _) rfl rfl (fun h=>?_) (fun h=>?_))))
  | (focus ((refine B9 rfl rfl (cmp_le _ _) rfl rfl (fun h=>?_) (fun h=>?_))))
  | fail)
 all_goals refine AI (res1 rfl rfl) rsubZ selZ ⟨rfl,?_⟩
 ·exact .inl ⟨rfl,by omega⟩
 ·exact .inr ⟨rfl,by omega⟩
 ·exact .inr ⟨rfl,by omega⟩

theorem ends_spec (n s t:Int):Ans Tryz.prog (fv 57) [int n,int s,int t] [] (fun v=>v = int (if okEnds n s t then 0 else 2)):=by
 refine spec_in (cap:=[]) Tryz.func57 rfl rfl Tryz.ntmps57 rfl envZ (fun N β=>?_)
 repeat' (first
  | (refine AB ?_)
  | (refine AC ?_)
  | (refine AQ ?_)
  | (refine AL ?_)
  | (refine BJ ?_)
  | (refine AD ?_)
  | (refine AA ?_)
  | (refine AE ?_)
  | (refine AK ?_)
  | (refine AO rfl ?_)
  | (refine AN rfl ?_)
  | (refine AH rfl rfl rfl ?_)
  | (focus ((refine A4 (inside_spec _ _) rfl rfl rdZ rfl rfl ?_; rintro v (⟨rfl,h⟩ | ⟨rfl,h⟩))))
  | (focus ((refine B9 rfl rfl (cmp_eq _ _) rfl rfl (fun h=>?_) (fun h=>?_))))
  | fail)
 all_goals refine AI (res1 rfl rfl) rsubZ selZ ⟨rfl,?_⟩
 all_goals first | rw [if_pos (by unfold okEnds; rw [decide_eq_true_eq]; omega)] | rw [if_neg (by unfold okEnds; rw [decide_eq_true_eq]; omega)]

theorem check1_spec (b:Nat) (T:TypeId) (n:Int) (a:Arc):Ans Tryz.prog (.func (.func 95) #[] #[.pointer (some ⟨b,0,none⟩)]) [.agg (encA a).toArray] [sng b (.cells #[int n] T (0,0))] (fun v=>v = .bool (!okArc n a)):=by
 refine spec_in (cap:=[.pointer (some ⟨b,0,none⟩)]) Tryz.func95 rfl rfl Tryz.ntmps95 rfl envZ (fun N β=>?_)
 have hb:rdc (sng b (.cells #[int n] T (0,0))) b 0 = some (int n):=by rw [rdc_sng]; rfl
 unfold encA
 repeat' (first
  | (refine AB ?_)
  | (refine AC ?_)
  | (refine AF ?_)
  | (refine AG ?_)
  | (refine AQ ?_)
  | (refine AL ?_)
  | (refine BJ ?_)
  | (refine AD ?_)
  | (refine AA ?_)
  | (refine AE ?_)
  | (refine AH rfl rfl rfl ?_)
  | (focus ((refine A4 (inside_spec _ _) rfl rfl rdZ rfl rfl ?_; rintro v (⟨rfl,h⟩ | ⟨rfl,h⟩))))
  | (refine CI ?_; rintro _ _ ⟨b,rfl,rfl⟩)
  | (focus ((refine B9 rfl rfl (cmp_eq _ _) rfl rfl (fun h=>?_) (fun h=>?_))))
  | (focus ((refine B9 rfl rfl (cmp_lt _ _) rfl rfl (fun h=>?_) (fun h=>?_))))
  | fail)
 all_goals refine AI (res1 rfl rfl) rsubZ selZ ⟨rfl,?_⟩
 all_goals first
  | (rw [show okArc n a = true from by unfold okArc; rw [decide_eq_true_eq]; omega]; rfl)
  | (rw [show okArc n a = false from by unfold okArc; rw [decide_eq_false_iff_not]; omega]; rfl)

def idxOf {α:Type} (p:α → Bool) (l:List α):Int:=match l.findIdx? p with
 | some i=>i
 | none=>-1
theorem idxOf_ge {α:Type} (p:α → Bool) (l:List α):(0 ≤ idxOf p l ↔ l.any p = true):=by
 unfold idxOf
 cases h:l.findIdx? p with
 | none =>
  rw [List.findIdx?_eq_none_iff] at h
  simp; exact h
 | some i =>
  have:=List.findIdx?_isSome (xs:=l) (p:=p)
  rw [h] at this
  simp at this ⊢
  exact this
theorem indexArc_spec (ρ:PH) (v f:Value) (R1:List PH) (l:List Arc) (p:Arc → Bool) (hv:ArcsAt ρ v l) (hl:l.length ≤ 1000000) (hf:∀ a ∈ l,Ans Tryz.prog f [.agg (encA a).toArray] R1 (fun u=>u = .bool (p a))) :
  Ans Tryz.prog (fv 129) [v,f] (ρ :: R1) (fun u=>u = int (idxOf p l)):=by
 obtain ⟨q,c,rfl,hr⟩:=hv.val encA_len
 refine spec_in (cap:=[]) Tryz.func129 rfl rfl Tryz.ntmps129 rfl envZ (fun N β=>?_)
 refine AD ?_;refine AA ?_;refine AC ?_;refine AE ?_;refine AD ?_;refine AD ?_;refine AA ?_;refine AB ?_;refine AV ?_;refine AB ?_;refine AE ?_;refine AP ?_
 refine BB [0,1,6,7] (0:Nat) (fun k=>k ≤ l.length ∧ ∀ x ∈ l.take k,p x = false) (fun k=>[(8,int k)]) (fun _=>[]) (fun k=>l.length - k) pickZ ⟨by omega,by simp⟩ covZ selZ ?_
 rintro k ⟨hk,hno⟩
 by_cases hlt:k < l.length
 ·have hx:=List.getElem?_eq_getElem hlt
  obtain ⟨b,o,rfl,hA,h0,h1,h2⟩:=arcRow hr hx
  have hfa:=hf l[k] (List.getElem_mem hlt)
  unfold encA at hfa;refine AD ?_;refine AA ?_;refine BD ?_;refine AE ?_;refine AD ?_;refine AO rfl ?_;refine AK ?_;refine AD ?_;refine AP ?_;refine AD ?_;refine AA ?_;refine AB ?_;refine AC ?_;refine AE ?_;refine AD ?_;refine AA ?_;refine AB ?_;refine AB ?_;refine AB ?_;refine A3 ?_;refine AT ?_
  refine A4 (hfa.rsub (R':=R1) (fun _ h=>h)) rfl rfl ?_ rfl rfl ?_
  ·intro σ hσ; left; simp [hσ]
  rintro u rfl;refine AE ?_
  refine jk_if rfl (fun hp=>?_) (fun hp=>?_)
  ·refine AD ?_
   refine AA ?_;refine AB ?_;refine AC ?_;refine AE ?_;refine AI (res1 rfl rfl) ?_ selZ ⟨rfl,?_⟩
   ·intro σ hσ; exact hσ
   ·have:l.findIdx? p = some k:=by
     rw [List.findIdx?_eq_some_iff_getElem]
     refine ⟨hlt,hp,fun j hj=>?_⟩
     have:=hno l[j] (List.mem_take_iff_getElem.2 ⟨j,by omega,rfl⟩)
     simp [this]
    unfold idxOf; rw [this]
  ·refine AK ?_
   refine AZ ?_;refine AA ?_;refine A7 ?_;refine AB ?_;refine AE ?_
   refine AU (k + 1) ⟨by omega,fun x hx'=>?_⟩ (by omega) covZ selZ
   rw [List.take_succ_eq_append_getElem hlt] at hx'
   rcases List.mem_append.1 hx' with hx' | hx'
   ·exact hno x hx'
   ·rw [List.mem_singleton.1 hx']; exact hp
 ·refine AD ?_
  refine AA ?_;refine AY ?_;refine AE ?_;refine AD ?_;refine AN rfl ?_;refine A5 rfl ?_;refine AD ?_;refine AA ?_;refine AC ?_;refine AE ?_;refine AI (res1 rfl rfl) ?_ selZ ⟨rfl,?_⟩
  ·intro σ hσ; exact hσ
  ·have hkl:k = l.length:=by omega
   subst hkl;rw [List.take_length] at hno
   have:l.findIdx? p = none:=by rw [List.findIdx?_eq_none_iff]; exact hno
   unfold idxOf; rw [this]
theorem containsArc_spec (ρ:PH) (v f:Value) (R1:List PH) (l:List Arc) (p:Arc → Bool) (hv:ArcsAt ρ v l) (hl:l.length ≤ 1000000) (hf:∀ a ∈ l,Ans Tryz.prog f [.agg (encA a).toArray] R1 (fun u=>u = .bool (p a))) :
  Ans Tryz.prog (fv 94) [v,f] (ρ :: R1) (fun u=>u = .bool (l.any p)):=by
 refine spec_in (cap:=[]) Tryz.func94 rfl rfl Tryz.ntmps94 rfl envZ (fun N β=>?_)
 refine AD ?_;refine AA ?_;refine AC ?_;refine AE ?_;refine AD ?_;refine AA ?_;refine AB ?_;refine AB ?_;refine A4 (indexArc_spec ρ v f R1 l p hv hl hf) rfl rfl ?_ rfl rfl ?_
 ·intro σ hσ; left; simp at hσ ⊢; right; exact hσ
 rintro u rfl
 have hi:=idxOf_ge p l
 by_cases hc:0 ≤ idxOf p l
 all_goals
  repeat' (first
   | (refine AC ?_)
   | (refine CK ?_)
   | (refine BO ?_)
   | (refine AE ?_)
   | fail)
  refine AI (res1 rfl rfl) (by intro σ hσ; exact hσ) selZ ⟨rfl,?_⟩
 ·rw [hi.1 hc]
 ·have:l.any p = false:=by
   cases h:l.any p with
   | false=>rfl
   | true=>exact absurd (hi.2 h) hc
  rw [this]

theorem check_spec (ρ:PH) (v:Value) (n:Int) (l:List Arc) (hv:ArcsAt ρ v l) (hl:l.length ≤ 1000000) :
  Ans Tryz.prog (fv 56) [int n,v] [ρ] (fun u=>u = int (chk n l)):=by
 obtain ⟨q,c,rfl,hr⟩:=hv.val encA_len
 refine spec_in (cap:=[]) Tryz.func56 rfl rfl Tryz.ntmps56 rfl envZ (fun N β=>?_)
 repeat' (first
  | (refine AB ?_)
  | (refine AC ?_)
  | (refine AF ?_)
  | (refine AQ ?_)
  | (refine AL ?_)
  | (refine AV ?_)
  | (refine CF ?_)
  | (refine AD ?_)
  | (refine AA ?_)
  | (refine AE ?_)
  | (refine AK ?_)
  | (refine AO rfl ?_)
  | (refine AN rfl ?_)
  | (refine AH rfl rfl rfl ?_)
  | (focus ((refine A4 (containsArc_spec ρ _ _ [_] l (fun a=>!okArc n a) hv hl (fun a _=>check1_spec _ _ n a)) rfl rfl rdZ rfl rfl ?_; rintro u rfl)))
  | (refine EN ?_; rintro _ _ ⟨b,rfl,rfl⟩)
  | (focus ((refine B9 rfl rfl (cmp_lt _ _) rfl rfl (fun h=>?_) (fun h=>?_))))
  | (focus ((refine jk_if rfl (fun h=>?_) (fun h=>?_))))
  | fail)
 all_goals refine AI (res1 rfl rfl) rsubZ selZ ⟨rfl,?_⟩
 all_goals unfold chk
 ·rw [if_pos (by omega)]
 ·rw [if_neg (by omega),if_pos (by omega)]
 ·rw [if_neg (by omega),if_pos (by omega)]
 ·rename_i h
  rw [if_neg (by omega),if_neg (by omega),if_neg (fun h2=>?_)]
  simp only [List.all_eq_true,List.any_eq_true,Bool.not_eq_true'] at h h2
  obtain ⟨x,hx,e⟩:=h
  rw [h2 x hx] at e
  simp at e
 ·rename_i h
  rw [if_neg (by omega),if_neg (by omega),if_pos ?_]
  rw [List.all_eq_true];rw [List.any_eq_false] at h
  intro x hx
  simpa using h x hx

theorem refCheck_spec (ρ:PH) (v:Value) (n:Int) (l:List Arc) (hv:ArcsAt ρ v l) (hl:l.length ≤ 1000000) :
  Ans Tryz.prog (fv 105) [int n,v] [ρ] (fun u=>u = int (chk n l)):=by
 obtain ⟨q,c,rfl,hr⟩:=hv.val encA_len
 refine spec_in (cap:=[]) Tryz.func105 rfl rfl Tryz.ntmps105 rfl envZ (fun N β=>?_)
 by_cases c1:n < 0
 ·refine AD ?_
  refine AA ?_;refine AC ?_;refine AE ?_;refine AD ?_;refine AD ?_;refine AA ?_;refine AB ?_;refine BD ?_;refine AE ?_;refine AO rfl ?_;refine AD ?_;refine AA ?_;refine AC ?_;refine AE ?_
  exact AI (res1 rfl rfl) rsubZ selZ ⟨rfl,by unfold chk; rw [if_pos c1]⟩
 by_cases c2:2000 < n ∨ 20000 < l.length
 ·have hchk:chk n l = 4:=by unfold chk; rw [if_neg c1,if_pos c2]
  repeat' (first
   | (refine AB ?_)
   | (refine AC ?_)
   | (refine AQ ?_)
   | (refine AL ?_)
   | (refine AV ?_)
   | (refine AY ?_)
   | (refine CP ?_)
   | (refine AD ?_)
   | (refine AA ?_)
   | (refine AE ?_)
   | (refine AK ?_)
   | (refine AO rfl ?_)
   | (refine AN rfl ?_)
   | (refine AH rfl rfl rfl ?_)
   | (focus ((refine B9 rfl rfl (cmp_lt _ _) rfl rfl (fun h=>?_) (fun h=>?_))))
   | fail)
  all_goals exact AI (res1 rfl rfl) rsubZ selZ ⟨rfl,by rw [hchk]⟩
 refine AD ?_;refine AA ?_;refine AC ?_;refine AE ?_;refine AD ?_;refine AD ?_;refine AA ?_;refine AB ?_;refine AY ?_;refine AE ?_;refine AN rfl ?_;refine AK ?_;refine AD ?_;refine AD ?_;refine AA ?_;refine AB ?_;refine B4 ?_;refine AB ?_;refine AB ?_;refine AV ?_;refine B4 ?_;refine AL ?_;refine AE ?_;refine AN rfl ?_;refine AK ?_;refine AD ?_;refine AD ?_;refine AA ?_;refine AC ?_;refine AE ?_;refine AP ?_
 refine BB [0,1] (0:Nat) (fun k=>k ≤ l.length ∧ ∀ x ∈ l.take k,okArc n x = true) (fun k=>[(5,int k)]) (fun _=>[]) (fun k=>l.length - k) pickZ ⟨by omega,by simp⟩ covZ selZ ?_
 rintro k ⟨hk,hno⟩
 by_cases hlt:k < l.length
 ·have hx:=List.getElem?_eq_getElem hlt
  obtain ⟨b,o,rfl,hA,h0,h1,h2⟩:=arcRow hr hx
  by_cases hok:okArc n l[k] = true
  ·have hok':=hok
   unfold okArc at hok';rw [decide_eq_true_eq] at hok'
   obtain ⟨g1,g2,g3,g4,g5,g6,g7⟩:=hok'
   refine AD ?_;refine AD ?_;refine AA ?_;refine AB ?_;refine AB ?_;refine AV ?_;refine BD ?_;refine AE ?_;refine AO rfl ?_;refine AK ?_;refine AD ?_;refine AP ?_;refine AD ?_;refine AA ?_;refine AB ?_;refine AB ?_;refine A3 ?_;refine AT ?_;refine A2 ?_; rintro _ _ ⟨b,rfl,rfl⟩;refine AX ?_; rintro _ _ ⟨rfl,rfl⟩;refine AE ?_;refine AD ?_;refine AA ?_;refine AG ?_;refine AF ?_;refine AY ?_;refine AB ?_;refine AG ?_;refine AF ?_;refine AB ?_;refine BO ?_;refine AL ?_;refine AB ?_;refine AG ?_;refine AF ?_;refine AY ?_;refine AL ?_;refine AB ?_;refine AG ?_;refine AF ?_;refine AB ?_;refine BO ?_;refine AL ?_;refine AB ?_;refine AG ?_;refine AF ?_;refine AG ?_;refine AF ?_;refine B8 ?_;refine AL ?_;refine AB ?_;refine AG ?_;refine AF ?_;refine AY ?_;refine AL ?_;refine AB ?_;refine AG ?_;refine AF ?_;refine B4 ?_;refine AL ?_;refine AE ?_;refine AN rfl ?_;refine AK ?_;refine AZ ?_
   refine AA ?_;refine AB ?_;refine A7 ?_;refine AC ?_;refine AE ?_
   refine AU (k + 1) ⟨by omega,fun x hx'=>?_⟩ (by omega) covZ selZ
   rw [List.take_succ_eq_append_getElem hlt] at hx'
   rcases List.mem_append.1 hx' with hx' | hx'
   ·exact hno x hx'
   ·rw [List.mem_singleton.1 hx']; exact hok
  ·have hok':=hok
   unfold okArc at hok';rw [decide_eq_true_eq] at hok'
   have hchk:chk n l = 2:=by
    unfold chk;rw [if_neg c1,if_neg c2,if_neg]
    intro h
    rw [List.all_eq_true] at h;exact hok (h l[k] (List.getElem_mem hlt))
   repeat' (first
    | (refine AB ?_)
    | (refine AC ?_)
    | (refine AF ?_)
    | (refine AG ?_)
    | (refine A3 ?_)
    | (refine AQ ?_)
    | (refine AL ?_)
    | (refine AV ?_)
    | (refine BD ?_)
    | (refine CP ?_)
    | (refine AT ?_)
    | (refine AD ?_)
    | (refine AA ?_)
    | (refine AE ?_)
    | (refine AP ?_)
    | (refine AK ?_)
    | (refine AO rfl ?_)
    | (refine AH rfl rfl rfl ?_)
    | (refine A2 ?_; rintro _ _ ⟨b,rfl,rfl⟩)
    | (refine AX ?_; rintro _ _ ⟨rfl,rfl⟩)
    | (focus ((refine B9 rfl rfl (cmp_eq _ _) rfl rfl (fun h=>?_) (fun h=>?_))))
    | (focus ((refine B9 rfl rfl (cmp_lt _ _) rfl rfl (fun h=>?_) (fun h=>?_))))
    | (focus ((refine B9 rfl rfl (cmp_le _ _) rfl rfl (fun h=>?_) (fun h=>?_))))
    | fail)
   all_goals first
    | (exfalso; omega)
    | exact AI (res1 rfl rfl) rsubZ selZ ⟨rfl,by rw [hchk]⟩
 ·refine AD ?_
  refine AD ?_;refine AA ?_;refine AB ?_;refine AB ?_;refine AV ?_;refine AY ?_;refine AE ?_;refine AN rfl ?_;refine A5 rfl ?_;refine AD ?_;refine AA ?_;refine AC ?_;refine AE ?_;refine AI (res1 rfl rfl) rsubZ selZ ⟨rfl,?_⟩
  have hkl:k = l.length:=by omega
  subst hkl;rw [List.take_length] at hno;unfold chk
  rw [if_neg c1,if_neg c2,if_pos (by rw [List.all_eq_true]; exact hno)]

theorem refEnds_spec (ρ:PH) (v:Value) (n s t:Int) (l:List Arc) (hv:ArcsAt ρ v l) (hl:l.length ≤ 1000000) :
  Ans Tryz.prog (fv 93) [int n,v,int s,int t] [ρ] (fun u=>u = int (if chk n l ≠ 0 then chk n l else if okEnds n s t then 0 else 2)):=by
 refine spec_in (cap:=[]) Tryz.func93 rfl rfl Tryz.ntmps93 rfl envZ (fun N β=>?_)
 repeat' (first
  | (refine AB ?_)
  | (refine AC ?_)
  | (refine AQ ?_)
  | (refine AL ?_)
  | (refine AD ?_)
  | (refine AA ?_)
  | (refine AE ?_)
  | (refine AK ?_)
  | (refine AO rfl ?_)
  | (refine AN rfl ?_)
  | (refine AH rfl rfl rfl ?_)
  | (focus ((refine A4 (refCheck_spec ρ v n l hv hl) rfl rfl rdZ rfl rfl ?_; rintro u rfl)))
  | (focus ((refine B9 rfl rfl (cmp_eq _ _) rfl rfl (fun h=>?_) (fun h=>?_))))
  | (focus ((refine B9 rfl rfl (cmp_ne _ _) rfl rfl (fun h=>?_) (fun h=>?_))))
  | (focus ((refine B9 rfl rfl (cmp_lt _ _) rfl rfl (fun h=>?_) (fun h=>?_))))
  | (focus ((refine B9 rfl rfl (cmp_le _ _) rfl rfl (fun h=>?_) (fun h=>?_))))
  | fail)
 all_goals refine AI (res1 rfl rfl) rsubZ selZ ⟨rfl,?_⟩
 ·rw [if_pos (by assumption)]
 all_goals rw [if_neg (by assumption)]
 all_goals first
  | rw [if_pos (by unfold okEnds; rw [decide_eq_true_eq]; omega)]
  | rw [if_neg (by unfold okEnds; rw [decide_eq_true_eq]; omega)]

end Go.Proofs.YtphehihohghfoaaGreat
/- Answers checked; results that are structs in memory; sums that wrap. No program in sight. No conditions. -/
namespace Go.Step
end Go.Step
namespace Go.Eng
open Go.IntWalk
variable {R H:List PH} {L:Env}
theorem resS2 {fn:Func} {N:Bs} {M:Nat} {P:Program} {t u b1 b2:Nat} {T U:TypeId} {v1 v2:List Value} (hr:fn.results = #[.cell t T,.cell u U]) (ht:look L t = some (.pointer (some ⟨b1,0,none⟩))) (hu:look L u = some (.pointer (some ⟨b2,0,none⟩))) (a1:aggP P T = some true) (a2:aggP P U = some true)
    (n1:szP P T = some v1.length) (n2:szP P U = some v2.length) (c1:Cells N R H b1 0 v1) (c2:Cells N R H b2 0 v2):∀ a w,Frm M L a → Sat N R H w → (results fn a.tmps).run P w = .ok (.tuple #[.agg v1.toArray,.agg v2.toArray]) w:=by
  intro a w hf hs
  have e1:a.tmps[t]?.getD undef = .pointer (some ⟨b1,0,none⟩):=by simpa using hf.get t _ ht
  have e2:a.tmps[u]?.getD undef = .pointer (some ⟨b2,0,none⟩):=by simpa using hf.get u _ hu
  have l1:=run_loadCells_list (P:=P) (w:=w) ⟨b1,0,none⟩ v1 (fun j v hv=>by rw [Addr.add_lit]; exact c1 w hs j v hv)
  have l2:=run_loadCells_list (P:=P) (w:=w) ⟨b2,0,none⟩ v2 (fun j v hv=>by rw [Addr.add_lit]; exact c2 w hs j v hv)
  simp [results,hr,e1,e2,loadVar,run_isAgg a1,run_isAgg a2,run_sizeOf n1,run_sizeOf n2,l1,l2,asAddr]
theorem Flat.agg7 {a b c d e f g:Value} {vs cs:List Value} (h:Flat vs cs):Flat (.agg #[a,b,c,d,e,f,g] :: vs) (a :: b :: c :: d :: e :: f :: g :: cs):=Flat.agg (ws:=[a,b,c,d,e,f,g]) h
theorem E2 {C:Cx} {x y:Operand} {dst:Option Tmp} {ty:TypeId} {pos:String} {aft:Array Edge} {g:Option (Nat × Bool)} {xT yT:TypeId} {m n:Int} (h1:evalE L x = some (.int .i64 m)) (h2:evalE L y = some (.int .i64 n)):Quiet C R H L ⟨dst,.binOp .add xT x y yT,ty,pos,aft,g⟩ (.int .i64 (IntKind.i64.wrap (m + n))):=
  EG (C:=C) (R:=R) (H:=H) (dst:=dst) (ty:=ty) (pos:=pos) (aft:=aft) (g:=g) (xT:=xT) (yT:=yT) (.inl ⟨rfl,rfl⟩) h1 h2
end Go.Eng
/- Results that lie in memory: one struct, or a struct and an error. -/
namespace Go.Eng
variable {L:Env} {R H:List PH}
theorem resS1 {fn:Func} {N:Bs} {M:Nat} {P:Program} {t b1:Nat} {T:TypeId} {v1:List Value} (hr:fn.results = #[.cell t T]) (ht:look L t = some (.pointer (some ⟨b1,0,none⟩))) (a1:aggP P T = some true)
    (n1:szP P T = some v1.length) (c1:Cells N R H b1 0 v1):∀ a w,Frm M L a → Sat N R H w → (results fn a.tmps).run P w = .ok (.agg v1.toArray) w:=by
  intro a w hf hs
  have e1:a.tmps[t]?.getD undef = .pointer (some ⟨b1,0,none⟩):=by simpa using hf.get t _ ht
  have l1:=run_loadCells_list (P:=P) (w:=w) ⟨b1,0,none⟩ v1 (fun j v hv=>by rw [Addr.add_lit]; exact c1 w hs j v hv)
  simp [results,hr,e1,loadVar,run_isAgg a1,run_sizeOf n1,l1,asAddr]
theorem resSE {fn:Func} {N:Bs} {M:Nat} {P:Program} {t u b1:Nat} {T:TypeId} {v1:List Value} {v2:Value} (hr:fn.results = #[.cell t T,.tmp u]) (ht:look L t = some (.pointer (some ⟨b1,0,none⟩))) (hu:look L u = some v2) (a1:aggP P T = some true)
    (n1:szP P T = some v1.length) (c1:Cells N R H b1 0 v1):∀ a w,Frm M L a → Sat N R H w → (results fn a.tmps).run P w = .ok (.tuple #[.agg v1.toArray,v2]) w:=by
  intro a w hf hs
  have e1:a.tmps[t]?.getD undef = .pointer (some ⟨b1,0,none⟩):=by simpa using hf.get t _ ht
  have e2:a.tmps[u]?.getD undef = v2:=by simpa using hf.get u _ hu
  have l1:=run_loadCells_list (P:=P) (w:=w) ⟨b1,0,none⟩ v1 (fun j v hv=>by rw [Addr.add_lit]; exact c1 w hs j v hv)
  simp [results,hr,e1,e2,loadVar,run_isAgg a1,run_sizeOf n1,l1,asAddr]
end Go.Eng
/- The graph, and the numbers of its places. -/
namespace Go.Proofs.YtphehihohghfoaaGreat
open Go.Eng Go.Step
set_option maxRecDepth 100000
set_option maxHeartbeats 4000000

theorem ea_len (qs:List Int) (cs:List Ct) (bs:List Bk) (hs:List Hd) (d:Dm) (h:VOk qs cs bs hs d):(arcsE qs cs bs hs d).length ≤ 1000000:=by
 have:=h.len
 omega
set_option maxHeartbeats 32000000 in
theorem graph_spec {ρ τ σ υ:PH} {pq pc pb ph:Option Addr} {kq kc kb kh:Nat} {qs:List Int} {cs:List Ct} {bs:List Bk} {hs:List Hd} (hT:TbAt ρ τ σ υ pq pc pb ph kq kc kb kh qs cs bs hs) (bw bm kp:Nat) (pl:Option Addr) (χ:PH) (M:List (List Int × Value)) (d:Dm) (h:VOk qs cs bs hs d) (h0:chkB qs cs bs = 0) (hpl:SlE encS 2 χ (.slice pl (placesA d qs.length).length kp) (placesA d qs.length)) (hM:NumAt d qs.length d.r M) :
  Makes Tryz.prog (fv 62) [.pointer (some ⟨bw,0,none⟩)] [sng bw (.cells #[.slice pq qs.length kq,.slice pc cs.length kc,.slice pb bs.length kb,.slice ph hs.length kh,int d.s,int d.d,int d.v,int d.r,int d.e,.slice pl (placesA d qs.length).length kp,.map (some bm)] 134 (0,0)),sng bm (mapS M),χ,ρ,τ,σ,υ] (fun r χ'=>∃ u,r = .agg #[int (vsN qs d),u,int (vtx d d.s d.r),int (vtx d d.d d.e)] ∧ OwnS 141 3 u (arcsG qs cs bs hs d).length ((arcsG qs cs bs hs d).flatMap encA) χ'):=by
 have hdm:=h.dm
 unfold okDm at hdm
 have hnq:=h.nq
 have hMl:=hM.1
 have hl1:=numAt_get hM (n:=d.s) (t:=d.r) (by omega) (by omega) (by omega) (by omega)
 have hl2:=numAt_get hM (n:=d.d) (t:=d.e) (by omega) (by omega) (by omega) (by omega)
 have hit:=fun c1=>arcs_iter hT bw bm c1 kp pl χ M d h h0 hpl hM
 have hEl:=ea_len qs cs bs hs d h
 have hplen:(((placesA d qs.length).length:Nat):Int) = vsN qs d:=placesA_len (d:=d) (by omega) qs.length
 have hone:∀ z n (xs:List Value) (χ:PH),OwnS 141 3 z n xs χ → z.oneCell' = true:=fun z n xs χ h=>by obtain ⟨_,_,rfl⟩:=h.form; rfl
 have w0:rdc (sng bw (.cells #[.slice pq qs.length kq,.slice pc cs.length kc,.slice pb bs.length kb,.slice ph hs.length kh,int d.s,int d.d,int d.v,int d.r,int d.e,.slice pl (placesA d qs.length).length kp,.map (some bm)] 134 (0,0))) bw 0 = some (.slice pq qs.length kq):=by rw [rdc_sng]; rfl
 have w1:rdc (sng bw (.cells #[.slice pq qs.length kq,.slice pc cs.length kc,.slice pb bs.length kb,.slice ph hs.length kh,int d.s,int d.d,int d.v,int d.r,int d.e,.slice pl (placesA d qs.length).length kp,.map (some bm)] 134 (0,0))) bw 1 = some (.slice pc cs.length kc):=by rw [rdc_sng]; rfl
 have w2:rdc (sng bw (.cells #[.slice pq qs.length kq,.slice pc cs.length kc,.slice pb bs.length kb,.slice ph hs.length kh,int d.s,int d.d,int d.v,int d.r,int d.e,.slice pl (placesA d qs.length).length kp,.map (some bm)] 134 (0,0))) bw 2 = some (.slice pb bs.length kb):=by rw [rdc_sng]; rfl
 have w3:rdc (sng bw (.cells #[.slice pq qs.length kq,.slice pc cs.length kc,.slice pb bs.length kb,.slice ph hs.length kh,int d.s,int d.d,int d.v,int d.r,int d.e,.slice pl (placesA d qs.length).length kp,.map (some bm)] 134 (0,0))) bw 3 = some (.slice ph hs.length kh):=by rw [rdc_sng]; rfl
 have w4:rdc (sng bw (.cells #[.slice pq qs.length kq,.slice pc cs.length kc,.slice pb bs.length kb,.slice ph hs.length kh,int d.s,int d.d,int d.v,int d.r,int d.e,.slice pl (placesA d qs.length).length kp,.map (some bm)] 134 (0,0))) bw 4 = some (int d.s):=by rw [rdc_sng]; rfl
 have w5:rdc (sng bw (.cells #[.slice pq qs.length kq,.slice pc cs.length kc,.slice pb bs.length kb,.slice ph hs.length kh,int d.s,int d.d,int d.v,int d.r,int d.e,.slice pl (placesA d qs.length).length kp,.map (some bm)] 134 (0,0))) bw 5 = some (int d.d):=by rw [rdc_sng]; rfl
 have w6:rdc (sng bw (.cells #[.slice pq qs.length kq,.slice pc cs.length kc,.slice pb bs.length kb,.slice ph hs.length kh,int d.s,int d.d,int d.v,int d.r,int d.e,.slice pl (placesA d qs.length).length kp,.map (some bm)] 134 (0,0))) bw 6 = some (int d.v):=by rw [rdc_sng]; rfl
 have w7:rdc (sng bw (.cells #[.slice pq qs.length kq,.slice pc cs.length kc,.slice pb bs.length kb,.slice ph hs.length kh,int d.s,int d.d,int d.v,int d.r,int d.e,.slice pl (placesA d qs.length).length kp,.map (some bm)] 134 (0,0))) bw 7 = some (int d.r):=by rw [rdc_sng]; rfl
 have w8:rdc (sng bw (.cells #[.slice pq qs.length kq,.slice pc cs.length kc,.slice pb bs.length kb,.slice ph hs.length kh,int d.s,int d.d,int d.v,int d.r,int d.e,.slice pl (placesA d qs.length).length kp,.map (some bm)] 134 (0,0))) bw 8 = some (int d.e):=by rw [rdc_sng]; rfl
 have w9:rdc (sng bw (.cells #[.slice pq qs.length kq,.slice pc cs.length kc,.slice pb bs.length kb,.slice ph hs.length kh,int d.s,int d.d,int d.v,int d.r,int d.e,.slice pl (placesA d qs.length).length kp,.map (some bm)] 134 (0,0))) bw 9 = some (.slice pl (placesA d qs.length).length kp):=by rw [rdc_sng]; rfl
 have w10:rdc (sng bw (.cells #[.slice pq qs.length kq,.slice pc cs.length kc,.slice pb bs.length kb,.slice ph hs.length kh,int d.s,int d.d,int d.v,int d.r,int d.e,.slice pl (placesA d qs.length).length kp,.map (some bm)] 134 (0,0))) bw 10 = some (.map (some bm)):=by rw [rdc_sng]; rfl
 have wp:RdP (sng bw (.cells #[.slice pq qs.length kq,.slice pc cs.length kc,.slice pb bs.length kb,.slice ph hs.length kh,int d.s,int d.d,int d.v,int d.r,int d.e,.slice pl (placesA d qs.length).length kp,.map (some bm)] 134 (0,0))) bw 0 [.slice pq qs.length kq,.slice pc cs.length kc]:=rdP_sng (xs:=[.slice pq qs.length kq,.slice pc cs.length kc,.slice pb bs.length kb,.slice ph hs.length kh,int d.s,int d.d,int d.v,int d.r,int d.e,.slice pl (placesA d qs.length).length kp,.map (some bm)]) rfl
 refine spec_in (cap:=[]) Tryz.func62 rfl rfl Tryz.ntmps62 rfl envZ (fun N β=>?_)
 refine BV ?_;refine AD ?_;refine AA ?_;refine A2 ?_; rintro _ _ ⟨b,rfl,rfl⟩;refine AE ?_;refine AD ?_
 revert b; intro b2
 refine E9 (X:=Nat) [0,2] (fun _=>True) (fun x=>[(3,.pointer (some ⟨x,0,none⟩))]) (fun x=>[sng x (.cells #[int (vsN qs d),.slice none 0 0,int (vtx d d.s d.r),int (vtx d d.d d.e)] 69 (0,0)),sng b2 (.cells #[int 0,.slice none 0 0,int 0,int 0] 69 (0,0)),emp]) pickZ ?_ ?_
 ·refine A6 (.q 0 (.q 1 (.q 2 (.q 3 (.q 4 (.q 5 (.q 6 (.q 7 (.q 8 (.q 9 (.q 10 (.q 11 (.q 12 (.q 13 (.q 14 (.q 15 (.q 16 (.q 17 (.q 18 (.q 19 (.q 20 (.q 21 (.q 22 (.q 23 (.q 24 (.q 25 (.q 26 (.q 27 (.q 28 (.q 29 (.q 30 (.q 31 (.q 32 (.q 33 (.q 34 (.q 35 (.q 36 (.q 37 (.l 38 .e (.l 39 .b .nil)))))))))))))))))))))))))))))))))))))))) [] rfl (by kernel_rfl) Sel.nil ?_
  repeat' (first
   | (refine AJ ?_)
   | (refine AR ?_)
   | (refine A0 ?_)
   | (refine BY ?_)
   | (refine BX ?_)
   | (refine DA ?_)
   | (refine BA ?_)
   | (refine CD ?_)
   | (focus ((refine' CV rfl _ rfl rfl rfl rfl _; rotate_left; (focus (first | exact C1 2 [d.s,d.r] rfl rfl rfl ⟨by kernel_rfl,by kernel_rfl⟩ rfl hMl rfl hl1 (mapAtS_rd memZ) | exact C1 2 [d.d,d.e] rfl rfl rfl ⟨by kernel_rfl,by kernel_rfl⟩ rfl hMl rfl hl2 (mapAtS_rd memZ))))))
   | (focus ((refine CL ?_; refine' FJ rfl _ rfl rfl _ _; rotate_left; (focus (apply DC; exact rfl; exact rfl; exact takeZ; exact (by (repeat (first | exact (fun v hv=>absurd hv List.not_mem_nil) | (refine List.forall_mem_cons.2 ⟨?_,?_⟩; (focus (first | exact rfl | assumption))))); first | done | fail); exact rfl; exact rfl)); (focus (rintro _ _ ⟨_,rfl⟩ w hw; exact hw.sel Sel.nil)); rintro _ _ ⟨rfl,rfl⟩)))
   | (refine A8 ?_)
   | (refine DI ?_; rintro _ _ ⟨b,rfl,rfl⟩)
   | fail)
  all_goals (rw [hplen]; refine D7 _ trivial covZ selZ)
 rintro b3 _;refine AD ?_;refine AD ?_;refine AA ?_;refine AB ?_
 refine BG (arcs_spec bw) rfl rfl Takes.nil (fun τ hτ=>by simp at hτ) rfl rfl ?_
 rintro _ _ ⟨c1,rfl,rfl⟩;refine AS (ρ:=sng c1 _) takeZ ?_;refine AE ?_;refine AP ?_
 refine DD (gf:=102) (cap:=[.pointer (some ⟨c1,0,none⟩)]) (ps:=[45]) (X:=Value × PH) rfl Tryz.func102 rfl rfl
  (hit c1) ?_
  (fun i x=>OwnS 141 3 x.1 ((arcsE qs cs bs hs d).take i).length (((arcsE qs cs bs hs d).take i).flatMap (fun e=>encA e.a)) x.2)
  (fun x=>[sng b3 (.cells #[int (vsN qs d),x.1,int (vtx d d.s d.r),int (vtx d d.d d.e)] 69 (0,0)),sng b2 (.cells #[int 0,.slice none 0 0,int 0,int 0] 69 (0,0)),x.2]) (fun _ _=>False) (.slice none 0 0,emp) rfl takesZ (OwnS.nil _ _) ?_ ?_ ?_
 ·intro σ' hσ
  simp only [List.mem_cons,List.not_mem_nil,or_false] at hσ ⊢
  rcases hσ with h | h | h | h | h | h | h | h <;> simp [h]
 ·rintro lo r i ⟨u,σ1⟩ vs hvs hO hps has hbd hst hpe hfr
  obtain ⟨st,pe,fnn,tm,prm,asg,bdy,df⟩:=r
  simp only at hps has hbd hst hpe hfr;subst hps has hbd hst hpe;rw [List.getElem?_map] at hvs
  obtain ⟨x,hx,rfl⟩:=Option.map_eq_some_iff.1 hvs
  dsimp only at hO
  have hti:((arcsE qs cs bs hs d).take (i + 1)) = (arcsE qs cs bs hs d).take i ++ [x]:=by
   rw [List.take_add_one,hx]; rfl
  have hil:((arcsE qs cs bs hs d).take i).length ≤ 1000000:=by rw [List.length_take]; omega
  simp only [hti]
  generalize (arcsE qs cs bs hs d).take i = O at hO hil
  have hu1:=hone _ _ _ _ hO
  refine yield_spec hfr rfl (by intro p hp; simp at hp; omega) putiZ (fun N' β'=>?_)
  dsimp only
  refine AA ?_;refine A2 ?_; rintro _ _ ⟨b,rfl,rfl⟩;refine AX ?_; rintro _ _ ⟨rfl,rfl⟩;refine AE ?_;refine CX rfl rfl ?_;refine C7 takeZ rfl ?_
  revert b; intro bx
  refine AS (ρ:=sng bx _) takeZ ?_
  have px:RdP (sng bx (.cells #[int x.a.f,int x.a.t,int x.a.c,int x.c,int x.t] 150 (0,0))) bx 0 [int x.a.f,int x.a.t,int x.a.c]:=rdP_sng (xs:=[int x.a.f,int x.a.t,int x.a.c,int x.c,int x.t]) rfl
  refine AP ?_;refine AA ?_;refine AG ?_;refine AF ?_;refine AG ?_;refine AT ?_;refine A9 ?_; rintro _ _ ⟨b,rfl,rfl⟩
  refine BI (BP (by_:=24) (s:=3) (news:=[int x.a.f,int x.a.t,int x.a.c]) rfl rfl rfl rfl rfl rfl rfl hO takeZ (cells_own memZ) rfl (by (repeat (first | exact (fun v hv=>absurd hv List.not_mem_nil) | (refine List.forall_mem_cons.2 ⟨?_,?_⟩; (focus (first | exact rfl | assumption))))); first | done | fail) (by omega) (by simp only [maxLen]; omega) (by omega)) rfl rfl rfl ?_
  rintro u1 _ ⟨σ2,hO1,rfl⟩
  have hu2:=hone _ _ _ _ hO1
  refine AG ?_;refine BF ?_; rintro _ _ ⟨rfl,rfl⟩;refine AE ?_;refine AZ ?_;refine B5 takeZ rsubZ selZ ⟨(u1,σ2),.inl ⟨rfl,?_,rfl⟩⟩
  dsimp only
  rw [List.length_append,List.flatMap_append];exact hO1
 ·rintro b9 ⟨u,σ1⟩ hO
  rw [List.length_map,List.take_length] at hO
  dsimp only at hO
  have hO2:OwnS 141 3 u (arcsG qs cs bs hs d).length ((arcsG qs cs bs hs d).flatMap encA) σ1:=by
   unfold arcsG;rw [List.length_map,List.flatMap_map];exact hO
  have hu1:=hone _ _ _ _ hO2
  refine AZ ?_;refine AD ?_;refine AA ?_;refine AT ?_;refine AX ?_; rintro _ _ ⟨rfl,rfl⟩;refine AE ?_;refine EI (v:=.agg #[int (vsN qs d),u,int (vtx d d.s d.r),int (vtx d d.d d.e)]) (Marks.cons (.there .here) .nil) ?_ rsubZ ?_ ⟨σ1,⟨u,rfl,hO2⟩,rfl⟩
  ·exact resS1 (b1:=b2) (T:=69) (v1:=[int (vsN qs d),u,int (vtx d d.s d.r),int (vtx d d.d d.e)]) rfl rfl rfl rfl (cells_own memZ)
  ·exact selZ
 ·rintro _ _ _ h; exact h.elim
set_option maxHeartbeats 16000000 in
theorem Graph_spec {ρ τ σ υ:PH} {pq pc pb ph:Option Addr} {kq kc kb kh:Nat} {qs:List Int} {cs:List Ct} {bs:List Bk} {hs:List Hd} (hT:TbAt ρ τ σ υ pq pc pb ph kq kc kb kh qs cs bs hs) (d:Dm) :
  Makes Tryz.prog (fv 39) [.agg #[.slice pq qs.length kq,.slice pc cs.length kc,.slice pb bs.length kb,.slice ph hs.length kh],.agg #[int d.s,int d.d,int d.v,int d.r,int d.e]] [ρ,τ,σ,υ] (fun r χ'=>if validT qs cs bs hs d = true then ∃ u,r = .tuple #[.agg #[int (vsN qs d),u,int (vtx d d.s d.r),int (vtx d d.d d.e)],int 0] ∧ OwnS 141 3 u (arcsG qs cs bs hs d).length ((arcsG qs cs bs hs d).flatMap encA) χ' else r = .tuple #[.agg #[int 0,.slice none 0 0,int 0,int 0],int 1] ∧ χ' = emp):=by
 refine spec_in (cap:=[]) Tryz.func39 rfl rfl Tryz.ntmps39 rfl envZ (fun N β=>?_)
 refine AD ?_;refine AA ?_;refine BI (BK rfl) rfl rfl rfl ?_;rintro _ _ ⟨b1,rfl,rfl⟩;refine AS (ρ:=sng b1 _) takeZ ?_
 have ct:RdN (sng b1 (.cells #[.slice pq qs.length kq,.slice pc cs.length kc,.slice pb bs.length kb,.slice ph hs.length kh] 29 (0,0))) b1 0 [.slice pq qs.length kq,.slice pc cs.length kc,.slice pb bs.length kb,.slice ph hs.length kh]:=rdN_sng (vs:=[.slice pq qs.length kq,.slice pc cs.length kc,.slice pb bs.length kb,.slice ph hs.length kh])
 have ct0:rdc (sng b1 (.cells #[.slice pq qs.length kq,.slice pc cs.length kc,.slice pb bs.length kb,.slice ph hs.length kh] 29 (0,0))) b1 0 = some (.slice pq qs.length kq):=by rw [rdc_sng]; rfl
 have ct1:rdc (sng b1 (.cells #[.slice pq qs.length kq,.slice pc cs.length kc,.slice pb bs.length kb,.slice ph hs.length kh] 29 (0,0))) b1 1 = some (.slice pc cs.length kc):=by rw [rdc_sng]; rfl
 have ct2:rdc (sng b1 (.cells #[.slice pq qs.length kq,.slice pc cs.length kc,.slice pb bs.length kb,.slice ph hs.length kh] 29 (0,0))) b1 2 = some (.slice pb bs.length kb):=by rw [rdc_sng]; rfl
 have ct3:rdc (sng b1 (.cells #[.slice pq qs.length kq,.slice pc cs.length kc,.slice pb bs.length kb,.slice ph hs.length kh] 29 (0,0))) b1 3 = some (.slice ph hs.length kh):=by rw [rdc_sng]; rfl
 have ctp:RdP (sng b1 (.cells #[.slice pq qs.length kq,.slice pc cs.length kc,.slice pb bs.length kb,.slice ph hs.length kh] 29 (0,0))) b1 0 [.slice pq qs.length kq,.slice pc cs.length kc]:=rdP_sng (xs:=[.slice pq qs.length kq,.slice pc cs.length kc,.slice pb bs.length kb,.slice ph hs.length kh]) rfl
 refine BI (BK rfl) rfl rfl rfl ?_;rintro _ _ ⟨b2,rfl,rfl⟩;refine AS (ρ:=sng b2 _) takeZ ?_
 have cd:RdN (sng b2 (.cells #[int d.s,int d.d,int d.v,int d.r,int d.e] 31 (0,0))) b2 0 [int d.s,int d.d,int d.v,int d.r,int d.e]:=rdN_sng (vs:=[int d.s,int d.d,int d.v,int d.r,int d.e])
 have cd0:rdc (sng b2 (.cells #[int d.s,int d.d,int d.v,int d.r,int d.e] 31 (0,0))) b2 0 = some (int d.s):=by rw [rdc_sng]; rfl
 have cd1:rdc (sng b2 (.cells #[int d.s,int d.d,int d.v,int d.r,int d.e] 31 (0,0))) b2 1 = some (int d.d):=by rw [rdc_sng]; rfl
 have cd2:rdc (sng b2 (.cells #[int d.s,int d.d,int d.v,int d.r,int d.e] 31 (0,0))) b2 2 = some (int d.v):=by rw [rdc_sng]; rfl
 have cd3:rdc (sng b2 (.cells #[int d.s,int d.d,int d.v,int d.r,int d.e] 31 (0,0))) b2 3 = some (int d.r):=by rw [rdc_sng]; rfl
 have cd4:rdc (sng b2 (.cells #[int d.s,int d.d,int d.v,int d.r,int d.e] 31 (0,0))) b2 4 = some (int d.e):=by rw [rdc_sng]; rfl
 refine BV ?_;refine A2 ?_; rintro _ _ ⟨b,rfl,rfl⟩;refine AC ?_;refine AE ?_;refine AD ?_;refine AA ?_;refine AT ?_;refine AT ?_
 revert b; intro b4
 refine BG (build_spec hT d) rfl rfl Takes.nil rdZ rfl rfl ?_;rintro _ H' (⟨hv,rfl,rfl⟩ | ⟨hv,bw,bm,pl0,χ,M,rfl,rfl,hO,hM⟩)
 ·refine AB ?_
  refine AM ?_;refine AM ?_;refine AC ?_;refine AC ?_;refine AE ?_;refine AD ?_;refine AD ?_;refine AA ?_;refine AB ?_;refine BJ ?_;refine AE ?_;refine AO rfl ?_;refine AD ?_;refine AA ?_;refine BT ?_;refine AX ?_; rintro _ _ ⟨rfl,rfl⟩;refine AC ?_;refine AE ?_
  exact AI (resSE (b1:=b4) (T:=69) (v1:=[int 0,.slice none 0 0,int 0,int 0]) rfl rfl rfl rfl rfl (cells_own memZ)) rsubZ selZ ⟨emp,by dsimp only; rw [if_neg (by simp [hv])]; exact ⟨rfl,rfl⟩,rfl⟩
 have h:=vok hv
 have h0:=vokB hv
 have hdm:=h.dm
 unfold okDm at hdm
 have hnq:=h.nq
 obtain ⟨pl,kp,rfl⟩:=hO.form
 have hpl:SlE encS 2 χ (.slice pl (placesA d qs.length).length kp) (placesA d qs.length):=hO.at
 refine AS (ρ:=sng bw _) takeZ ?_;refine AS (ρ:=sng bm _) takeZ ?_;refine AS (ρ:=χ) takeZ ?_
 have w0:rdc (sng bw (.cells #[.slice pq qs.length kq,.slice pc cs.length kc,.slice pb bs.length kb,.slice ph hs.length kh,int d.s,int d.d,int d.v,int d.r,int d.e,.slice pl (placesA d qs.length).length kp,.map (some bm)] 134 (0,0))) bw 0 = some (.slice pq qs.length kq):=by rw [rdc_sng]; rfl
 have w1:rdc (sng bw (.cells #[.slice pq qs.length kq,.slice pc cs.length kc,.slice pb bs.length kb,.slice ph hs.length kh,int d.s,int d.d,int d.v,int d.r,int d.e,.slice pl (placesA d qs.length).length kp,.map (some bm)] 134 (0,0))) bw 1 = some (.slice pc cs.length kc):=by rw [rdc_sng]; rfl
 have w2:rdc (sng bw (.cells #[.slice pq qs.length kq,.slice pc cs.length kc,.slice pb bs.length kb,.slice ph hs.length kh,int d.s,int d.d,int d.v,int d.r,int d.e,.slice pl (placesA d qs.length).length kp,.map (some bm)] 134 (0,0))) bw 2 = some (.slice pb bs.length kb):=by rw [rdc_sng]; rfl
 have w3:rdc (sng bw (.cells #[.slice pq qs.length kq,.slice pc cs.length kc,.slice pb bs.length kb,.slice ph hs.length kh,int d.s,int d.d,int d.v,int d.r,int d.e,.slice pl (placesA d qs.length).length kp,.map (some bm)] 134 (0,0))) bw 3 = some (.slice ph hs.length kh):=by rw [rdc_sng]; rfl
 have w4:rdc (sng bw (.cells #[.slice pq qs.length kq,.slice pc cs.length kc,.slice pb bs.length kb,.slice ph hs.length kh,int d.s,int d.d,int d.v,int d.r,int d.e,.slice pl (placesA d qs.length).length kp,.map (some bm)] 134 (0,0))) bw 4 = some (int d.s):=by rw [rdc_sng]; rfl
 have w5:rdc (sng bw (.cells #[.slice pq qs.length kq,.slice pc cs.length kc,.slice pb bs.length kb,.slice ph hs.length kh,int d.s,int d.d,int d.v,int d.r,int d.e,.slice pl (placesA d qs.length).length kp,.map (some bm)] 134 (0,0))) bw 5 = some (int d.d):=by rw [rdc_sng]; rfl
 have w6:rdc (sng bw (.cells #[.slice pq qs.length kq,.slice pc cs.length kc,.slice pb bs.length kb,.slice ph hs.length kh,int d.s,int d.d,int d.v,int d.r,int d.e,.slice pl (placesA d qs.length).length kp,.map (some bm)] 134 (0,0))) bw 6 = some (int d.v):=by rw [rdc_sng]; rfl
 have w7:rdc (sng bw (.cells #[.slice pq qs.length kq,.slice pc cs.length kc,.slice pb bs.length kb,.slice ph hs.length kh,int d.s,int d.d,int d.v,int d.r,int d.e,.slice pl (placesA d qs.length).length kp,.map (some bm)] 134 (0,0))) bw 7 = some (int d.r):=by rw [rdc_sng]; rfl
 have w8:rdc (sng bw (.cells #[.slice pq qs.length kq,.slice pc cs.length kc,.slice pb bs.length kb,.slice ph hs.length kh,int d.s,int d.d,int d.v,int d.r,int d.e,.slice pl (placesA d qs.length).length kp,.map (some bm)] 134 (0,0))) bw 8 = some (int d.e):=by rw [rdc_sng]; rfl
 have w9:rdc (sng bw (.cells #[.slice pq qs.length kq,.slice pc cs.length kc,.slice pb bs.length kb,.slice ph hs.length kh,int d.s,int d.d,int d.v,int d.r,int d.e,.slice pl (placesA d qs.length).length kp,.map (some bm)] 134 (0,0))) bw 9 = some (.slice pl (placesA d qs.length).length kp):=by rw [rdc_sng]; rfl
 have w10:rdc (sng bw (.cells #[.slice pq qs.length kq,.slice pc cs.length kc,.slice pb bs.length kb,.slice ph hs.length kh,int d.s,int d.d,int d.v,int d.r,int d.e,.slice pl (placesA d qs.length).length kp,.map (some bm)] 134 (0,0))) bw 10 = some (.map (some bm)):=by rw [rdc_sng]; rfl
 have hg:=graph_spec hT bw bm kp pl χ M d h h0 hpl hM
 refine AB ?_;refine AM ?_;refine AM ?_;refine AC ?_;refine AC ?_;refine AE ?_;refine AD ?_;refine AD ?_;refine AA ?_;refine AB ?_;refine BJ ?_;refine AE ?_;refine AN rfl ?_;refine AK ?_;refine AD ?_;refine AA ?_;refine AB ?_;refine BM hg rfl rfl rdZ rfl rfl ?_;rintro _ σ1 ⟨u,rfl,hO1⟩
 have hu1:u.oneCell' = true:=by obtain ⟨_,_,rfl⟩:=hO1.form; rfl
 refine AX ?_; rintro _ _ ⟨rfl,rfl⟩;refine AC ?_;refine AE ?_
 exact AI (resSE (b1:=b4) (T:=69) (v1:=[int (vsN qs d),u,int (vtx d d.s d.r),int (vtx d d.d d.e)]) rfl rfl rfl rfl rfl (cells_own memZ)) rsubZ selZ ⟨σ1,by dsimp only; rw [if_pos hv]; exact ⟨u,rfl,hO1⟩,rfl⟩
end Go.Proofs.YtphehihohghfoaaGreat
/- Values of flows, capacities of cuts, equal lists: what the functions answer. -/
namespace Go.Proofs.YtphehihohghfoaaGreat
open Go.Eng Go.Flow
set_option maxRecDepth 100000
set_option maxHeartbeats 4000000

theorem value_spec (ρ σ:PH) (v u:Value) (s:Int) (l:List Arc) (fl:List Int) (hv:ArcsAt ρ v l) (hu:IntsAt σ u fl) (hl:l.length ≤ 20000) (hfl:fl.length = l.length) (hs:small fl) :
  Ans Tryz.prog (fv 88) [v,u,int s] [ρ,σ] (fun r=>r = int (fval s l fl)):=by
 obtain ⟨q,c,rfl,hr⟩:=hv.val encA_len
 obtain ⟨q2,c2,rfl,hr2⟩:=hu.val Eng.encI_len
 refine spec_in (cap:=[]) Tryz.func88 rfl rfl Tryz.ntmps88 rfl envZ (fun N β=>?_)
 refine AD ?_;refine AA ?_;refine AC ?_;refine AE ?_;refine AD ?_;refine AA ?_;refine AC ?_;refine AE ?_;refine AD ?_;refine AD ?_;refine AA ?_;refine AB ?_;refine AV ?_;refine AB ?_;refine AE ?_;refine AP ?_
 refine BB [0,1,2,10,11] ((0,0):Nat × Int) (fun x=>x.1 ≤ l.length ∧ x.2 = fval s (l.take x.1) (fl.take x.1)) (fun x=>[(7,int x.2),(12,int x.1)]) (fun _=>[]) (fun x=>l.length - x.1) pickZ ⟨by simp,by simp [fval]⟩ covZ selZ ?_
 rintro ⟨k,y⟩ ⟨hk,hy⟩;simp only at hk hy
 by_cases hlt:k < l.length
 ·have hx:=List.getElem?_eq_getElem hlt
  obtain ⟨b,o,rfl,hA,h0,h1,h2⟩:=arcRow hr hx
  have hx2:=List.getElem?_eq_getElem (show k < fl.length by omega)
  obtain ⟨b2,o2,rfl,g0⟩:=hr2.int hx2
  have hbd:=fval_bd s (l.take k) (fl.take k) (small_take hs k)
  have hlen:(fl.take k).length = k:=by simp; omega
  rw [← hy,hlen] at hbd
  have hx3:=hs fl[k] (List.getElem_mem _)
  have hstep:fval s (l.take (k + 1)) (fl.take (k + 1)) = y + ((if l[k].f = s then fl[k] else 0) - (if l[k].t = s then fl[k] else 0)):=by
   rw [take_snoc' hlt,take_snoc' (show k < fl.length by omega),fval_snoc _ _ _ _ _ (by simp; omega),hy]
  repeat' (first
   | (refine AB ?_)
   | (refine AC ?_)
   | (refine AF ?_)
   | (refine AG ?_)
   | (refine BQ ?_)
   | (refine A3 ?_)
   | (refine A7 ?_)
   | (refine BD ?_)
   | (refine CC ?_)
   | (refine CY ?_)
   | (refine AT ?_)
   | (refine AD ?_)
   | (refine AA ?_)
   | (refine AE ?_)
   | (refine AP ?_)
   | (refine AZ ?_)
   | (refine AK ?_)
   | (refine AO rfl ?_)
   | (refine AN rfl ?_)
   | (refine A2 ?_; rintro _ _ ⟨b,rfl,rfl⟩)
   | (refine AX ?_; rintro _ _ ⟨rfl,rfl⟩)
   | (focus ((refine B9 rfl rfl (cmp_eq _ _) rfl rfl (fun h=>?_) (fun h=>?_))))
   | fail)
  all_goals refine AU (k + 1,_) ⟨by simp only; omega,?_⟩ (by simp only; omega) covZ selZ
  all_goals simp only
  all_goals rw [hstep]
  all_goals (repeat (first | rw [if_pos (by assumption)] | rw [if_neg (by assumption)]))
  all_goals omega
 ·refine AD ?_
  refine AA ?_;refine AY ?_;refine AE ?_;refine AD ?_;refine AN rfl ?_;refine A5 rfl ?_;refine AD ?_;refine AA ?_;refine AB ?_;refine AC ?_;refine AE ?_;refine AI (res1 rfl rfl) rsubZ selZ ⟨rfl,?_⟩
  rw [hy,List.take_of_length_le (by omega),List.take_of_length_le (by omega)]

theorem capacity_spec (ρ:PH) (v:Value) (n b cp:Nat) (T:TypeId) (l:List Arc) (m:List Bool) (hv:ArcsAt ρ v l) (hl:l.length ≤ 20000) (hok:∀ a ∈ l,okArc n a = true) (hm:m.length = n) :
  Ans Tryz.prog (fv 60) [v,.slice (some ⟨b,0,none⟩) n cp] [ρ,sng b (.cells (bools m) T (0,0))] (fun r=>r = int (capOf (fun j=>m.getD j false) l)):=by
 obtain ⟨q,c,rfl,hr⟩:=hv.val encA_len
 refine spec_in (cap:=[]) Tryz.func60 rfl rfl Tryz.ntmps60 rfl envZ (fun N β=>?_)
 refine AD ?_;refine AA ?_;refine AC ?_;refine AE ?_;refine AD ?_;refine AA ?_;refine AC ?_;refine AE ?_;refine AD ?_;refine AD ?_;refine AA ?_;refine AB ?_;refine AV ?_;refine AB ?_;refine AE ?_;refine AP ?_
 refine BB [0,1,8,9] ((0,0):Nat × Int) (fun x=>x.1 ≤ l.length ∧ x.2 = capOf (fun j=>m.getD j false) (l.take x.1)) (fun x=>[(5,int x.2),(10,int x.1)]) (fun _=>[]) (fun x=>l.length - x.1) pickZ ⟨by simp,by simp [capOf]⟩ covZ selZ ?_
 rintro ⟨k,y⟩ ⟨hk,hy⟩;simp only at hk hy
 by_cases hlt:k < l.length
 ·have hx:=List.getElem?_eq_getElem hlt
  obtain ⟨b',o,rfl,hA,h0,h1,h2⟩:=arcRow hr hx
  have hbd:=capOf_bd n (fun j=>m.getD j false) (l.take k) (fun a ha=>hok a (List.mem_of_mem_take ha))
  have hlen:(l.take k).length = k:=by simp; omega
  rw [← hy,hlen] at hbd
  obtain ⟨g1,g2,g3,g4,g5,g6,g7⟩:=okArc_iff.1 (hok l[k] (List.getElem_mem hlt))
  have hstep:capOf (fun j=>m.getD j false) (l.take (k + 1)) = y + (if m.getD l[k].f.toNat false = true ∧ m.getD l[k].t.toNat false = false then l[k].c else 0):=by
   rw [take_snoc' hlt,capOf_snoc,hy]
  obtain ⟨f,hf⟩:=Int.eq_ofNat_of_zero_le g1
  obtain ⟨t,ht⟩:=Int.eq_ofNat_of_zero_le g3
  rw [hf,ht] at hA hstep;rw [hf] at g2;rw [ht] at g4
  have e1:m[f]? = some (m.getD f false):=by
   have:f < m.length:=by omega
   simp [this]
  have e2:m[t]? = some (m.getD t false):=by
   have:t < m.length:=by omega
   simp [this]
  simp only [Int.toNat_natCast] at hstep
  cases c1:m.getD f false with
  | false =>
   rw [c1] at e1
   rw [if_neg (by rw [c1]; simp),Int.add_zero] at hstep
   refine AD ?_;refine AA ?_;refine BD ?_;refine AE ?_;refine AD ?_;refine AO rfl ?_;refine AK ?_;refine AD ?_;refine AP ?_;refine AD ?_;refine AA ?_;refine A3 ?_;refine AT ?_;refine A2 ?_; rintro _ _ ⟨b,rfl,rfl⟩;refine AX ?_; rintro _ _ ⟨rfl,rfl⟩;refine AE ?_;refine AD ?_;refine AA ?_;refine AB ?_;refine AG ?_;refine AF ?_;refine BH ?_;refine AF ?_;refine AB ?_;refine AH rfl rfl rfl ?_;refine AH rfl rfl rfl ?_;refine AH rfl rfl rfl ?_;refine AH rfl rfl rfl ?_;refine AH rfl rfl rfl ?_;refine AH rfl rfl rfl ?_;refine AL ?_;refine AE ?_;refine AN rfl ?_;refine AK ?_;refine AZ ?_;refine AA ?_;refine A7 ?_;refine AB ?_;refine AE ?_
   exact AU (k + 1,_) ⟨by simp only; omega,hstep.symm⟩ (by simp only; omega) covZ selZ
  | true =>
   rw [c1] at e1
   cases c2:m.getD t false with
   | false =>
    rw [c2] at e2;rw [if_pos ⟨c1,c2⟩] at hstep;refine AD ?_;refine AA ?_;refine BD ?_;refine AE ?_;refine AD ?_;refine AO rfl ?_;refine AK ?_;refine AD ?_;refine AP ?_;refine AD ?_;refine AA ?_;refine A3 ?_;refine AT ?_;refine A2 ?_; rintro _ _ ⟨b,rfl,rfl⟩;refine AX ?_; rintro _ _ ⟨rfl,rfl⟩;refine AE ?_;refine AD ?_;refine AA ?_;refine AB ?_;refine AG ?_;refine AF ?_;refine BH ?_;refine AF ?_;refine AB ?_;refine AB ?_;refine AG ?_;refine AF ?_;refine BH ?_;refine AF ?_;refine BJ ?_;refine AQ ?_;refine AE ?_;refine AO rfl ?_;refine AA ?_;refine AB ?_;refine AG ?_;refine AF ?_;refine CC ?_;refine AC ?_;refine AE ?_;refine AZ ?_;refine AA ?_;refine A7 ?_;refine AB ?_;refine AE ?_
    exact AU (k + 1,_) ⟨by simp only; omega,hstep.symm⟩ (by simp only; omega) covZ selZ
   | true =>
    rw [c2] at e2
    rw [if_neg (by rw [c2]; simp),Int.add_zero] at hstep
    refine AD ?_;refine AA ?_;refine BD ?_;refine AE ?_;refine AD ?_;refine AO rfl ?_;refine AK ?_;refine AD ?_;refine AP ?_;refine AD ?_;refine AA ?_;refine A3 ?_;refine AT ?_;refine A2 ?_; rintro _ _ ⟨b,rfl,rfl⟩;refine AX ?_; rintro _ _ ⟨rfl,rfl⟩;refine AE ?_;refine AD ?_;refine AA ?_;refine AB ?_;refine AG ?_;refine AF ?_;refine BH ?_;refine AF ?_;refine AB ?_;refine AB ?_;refine AG ?_;refine AF ?_;refine BH ?_;refine AF ?_;refine BJ ?_;refine AQ ?_;refine AE ?_;refine AN rfl ?_;refine AK ?_;refine AZ ?_;refine AA ?_;refine A7 ?_;refine AB ?_;refine AE ?_
    exact AU (k + 1,_) ⟨by simp only; omega,hstep.symm⟩ (by simp only; omega) covZ selZ
 ·refine AD ?_
  refine AA ?_;refine AY ?_;refine AE ?_;refine AD ?_;refine AN rfl ?_;refine A5 rfl ?_;refine AD ?_;refine AA ?_;refine AB ?_;refine AC ?_;refine AE ?_;refine AI (res1 rfl rfl) rsubZ selZ ⟨rfl,?_⟩
  rw [hy,List.take_of_length_le (by omega)]

end Go.Proofs.YtphehihohghfoaaGreat
/- Capacity and Value, of the program and of the reference. -/
namespace Go.Proofs.YtphehihohghfoaaGreat
open Go.Eng Go.Flow
set_option maxRecDepth 100000
set_option maxHeartbeats 4000000

theorem capFun_eq (n:Nat) (side:List Int) (l:List Arc) (hok:∀ a ∈ l,okArc n a = true):capOf (fun j=>(marksOf n side).getD j false) l = capOf (fun j=>decide ((j:Int) ∈ side)) l:=by
 induction l with
 | nil=>rfl
 | cons a l ih =>
  obtain ⟨g1,g2,g3,g4,g5,g6,g7⟩:=okArc_iff.1 (hok a (by simp))
  simp only [capOf]
  rw [ih (fun b hb=>hok b (by simp [hb]))]
  have e1:(marksOf n side).getD a.f.toNat false = decide ((a.f.toNat:Int) ∈ side):=by
   rw [List.getD_eq_getElem?_getD,marksOf_get (by omega)]; rfl
  have e2:(marksOf n side).getD a.t.toNat false = decide ((a.t.toNat:Int) ∈ side):=by
   rw [List.getD_eq_getElem?_getD,marksOf_get (by omega)]; rfl
  simp only [e1,e2]

theorem flowCapacity_spec (ρ σ:PH) (v u:Value) (n:Int) (l:List Arc) (side:List Int) (hv:ArcsAt ρ v l) (hu:IntsAt σ u side) (hl:l.length ≤ 1000000) (hm:side.length ≤ 1000000) :
  Ans Tryz.prog (fv 44) [int n,v,u] [ρ,σ] (fun r=>r = .tuple #[int (capacitySpec n l side).1,int (capacitySpec n l side).2]):=by
 obtain ⟨q2,c2,rfl,hr2⟩:=hu.val Eng.encI_len
 refine spec_in (cap:=[]) Tryz.func44 rfl rfl Tryz.ntmps44 rfl envZ (fun N β=>?_)
 refine AD ?_;refine AA ?_;refine AC ?_;refine AC ?_;refine AE ?_;refine AD ?_;refine AD ?_;refine AA ?_;refine AB ?_;refine AB ?_
 focus ((refine A4 (check_spec ρ v n l hv hl) rfl rfl rdZ rfl rfl ?_; rintro _ rfl))
 refine AC ?_;refine AE ?_;refine AD ?_;refine AA ?_;refine AB ?_
 by_cases hc:chk n l = 0
 rotate_left
 ·refine CG ?_
  refine AE ?_;refine AO rfl ?_;refine AD ?_;refine AA ?_;refine AB ?_;refine AC ?_;refine AC ?_;refine AE ?_;refine AI (res2 rfl rfl rfl) rsubZ selZ ⟨rfl,?_⟩;unfold capacitySpec; rw [if_pos hc]
 obtain ⟨a1,a2,a3,hok⟩:=chk_ok hc
 obtain ⟨n,rfl⟩:=Int.eq_ofNat_of_zero_le a1
 refine BE ?_;refine AE ?_;refine AN rfl ?_;refine AK ?_;refine AD ?_;refine AA ?_;refine AB ?_;refine D6 ?_; rintro _ _ ⟨b,rfl,rfl⟩;refine AC ?_;refine AE ?_;refine AD ?_;refine AD ?_;refine AA ?_;refine AB ?_;refine AV ?_;refine AB ?_;refine AE ?_;refine AP ?_;rw [← marksOf_nil]
 refine BB [0,1,2,9,20,21] (0:Nat) (fun k=>k ≤ side.length ∧ sideChk n none side = sideChk n (prevAt side k) (side.drop k)) (fun k=>[(22,int k)]) (fun k=>[sng b (.cells (bools (marksOf n (side.take k))) 4 (0,0))]) (fun k=>side.length - k) pickZ ⟨by omega,by simp [prevAt]⟩ covZ selZ ?_
 rintro k ⟨hk,hy⟩
 have hml:=marksOf_len n (side.take k)
 by_cases hlt:k < side.length
 ·obtain ⟨b2,o2,rfl,g1⟩:=hr2.int (List.getElem?_eq_getElem hlt)
  have g2:1 ≤ k → rdc σ b2 (o2 + (k - 1)) = some (int side[k - 1]):=fun h=>by
   obtain ⟨b3,o3,e,g⟩:=hr2.int (List.getElem?_eq_getElem (show k - 1 < side.length by omega))
   simp only [Option.some.injEq,Addr.mk.injEq,and_true] at e;rw [e.1,e.2]; exact g
  have hin:0 ≤ side[k] ∧ side[k] < (n:Int) ∨ side[k] < 0 ∨ (n:Int) ≤ side[k]:=by omega
  rcases hin with hin | hin
  ·have hpv:k = 0 ∨ (1 ≤ k ∧ side[k] ≤ side[k - 1]) ∨ (1 ≤ k ∧ side[k - 1] < side[k]):=by omega
   have hpa:1 ≤ k → prevAt side k = some side[k - 1]:=fun h=>by
    obtain ⟨j,rfl⟩:∃ j,k = j + 1:=⟨k - 1,by omega⟩
    simp [prevAt]
   obtain ⟨x,hx⟩:=Int.eq_ofNat_of_zero_le hin.1
   rcases hpv with rfl | ⟨h1,h2⟩ | ⟨h1,h2⟩
   ·have hst:=sideChk_step (n:=n) hlt hin.1 hin.2 (by simp [prevAt])
    rw [hx] at g1 hin;refine AD ?_;refine AA ?_;refine BD ?_;refine AE ?_;refine AD ?_;refine AO rfl ?_;refine AK ?_;refine AD ?_;refine AP ?_;refine AD ?_;refine AA ?_;refine AB ?_;refine BQ ?_;refine AF ?_;refine AC ?_;refine AC ?_;refine AE ?_;refine AD ?_;refine AD ?_;refine AA ?_;refine AB ?_;refine AB ?_
    focus ((refine A4 (inside_spec _ _) rfl rfl rdZ rfl rfl ?_; rintro v (⟨rfl,h⟩ | ⟨rfl,h⟩); rotate_left; (focus (exfalso; omega))))
    refine BJ ?_;refine AE ?_;refine AN rfl ?_;refine AK ?_;refine AD ?_;refine AD ?_;refine AA ?_;refine AB ?_;refine B4 ?_;refine AB ?_;refine AH rfl rfl rfl ?_;refine AH rfl rfl rfl ?_;refine AH rfl rfl rfl ?_;refine AH rfl rfl rfl ?_;refine AH rfl rfl rfl ?_;refine AH rfl rfl rfl ?_;refine AH rfl rfl rfl ?_;refine AL ?_;refine AE ?_;refine AN rfl ?_;refine AK ?_;refine AA ?_;refine AB ?_;refine AB ?_;refine BH ?_;refine CZ ?_; rintro _ _ ⟨rfl,rfl⟩;refine AE ?_;refine AZ ?_;refine AA ?_;refine A7 ?_;refine AB ?_;refine AE ?_
    refine AU 1 ⟨by omega,by rw [hy,hst]⟩ (by omega) covZ ?_
    rw [take_snoc' hlt,hx,marksOf_snoc];exact selZ
   ·have hst:=sideChk_nine (n:=n) hlt hin.1 hin.2 (hpa h1) h2
    have hcs:capacitySpec n l side = (0,9):=by
     unfold capacitySpec
     rw [if_neg (by rw [hc]; simp),hy,hst,if_pos (by simp)]
    have g3:=g2 h1
    rw [hx] at g1 hin h2;refine AD ?_;refine AA ?_;refine BD ?_;refine AE ?_;refine AD ?_;refine AO rfl ?_;refine AK ?_;refine AD ?_;refine AP ?_;refine AD ?_;refine AA ?_;refine AB ?_;refine BQ ?_;refine AF ?_;refine AC ?_;refine AC ?_;refine AE ?_;refine AD ?_;refine AD ?_;refine AA ?_;refine AB ?_;refine AB ?_
    focus ((refine A4 (inside_spec _ _) rfl rfl rdZ rfl rfl ?_; rintro v (⟨rfl,h⟩ | ⟨rfl,h⟩); rotate_left; (focus (exfalso; omega))))
    refine BJ ?_;refine AE ?_;refine AN rfl ?_;refine AK ?_;refine AD ?_;refine AD ?_;refine AA ?_;refine AB ?_;refine CP ?_;refine AB ?_;refine AB ?_;refine AB ?_;refine AB ?_;refine DZ ?_;refine BQ ?_;refine AF ?_;refine CT ?_;refine AQ ?_;refine AE ?_;refine AO rfl ?_;refine AD ?_;refine AA ?_;refine AC ?_;refine AC ?_;refine AE ?_
    exact AI (res2 rfl rfl rfl) rsubZ selZ ⟨rfl,by rw [hcs]⟩
   ·have hst:=sideChk_step (n:=n) hlt hin.1 hin.2 (fun p hp=>by rw [hpa h1] at hp; simp at hp; omega)
    have g3:=g2 h1
    rw [hx] at g1 hin h2;refine AD ?_;refine AA ?_;refine BD ?_;refine AE ?_;refine AD ?_;refine AO rfl ?_;refine AK ?_;refine AD ?_;refine AP ?_;refine AD ?_;refine AA ?_;refine AB ?_;refine BQ ?_;refine AF ?_;refine AC ?_;refine AC ?_;refine AE ?_;refine AD ?_;refine AD ?_;refine AA ?_;refine AB ?_;refine AB ?_
    focus ((refine A4 (inside_spec _ _) rfl rfl rdZ rfl rfl ?_; rintro v (⟨rfl,h⟩ | ⟨rfl,h⟩); rotate_left; (focus (exfalso; omega))))
    refine BJ ?_;refine AE ?_;refine AN rfl ?_;refine AK ?_;refine AD ?_;refine AD ?_;refine AA ?_;refine AB ?_;refine CP ?_;refine AB ?_;refine AB ?_;refine AB ?_;refine AB ?_;refine DZ ?_;refine BQ ?_;refine AF ?_;refine CU ?_;refine AQ ?_;refine AE ?_;refine AN rfl ?_;refine AK ?_;refine AA ?_;refine AB ?_;refine AB ?_;refine BH ?_;refine CZ ?_; rintro _ _ ⟨rfl,rfl⟩;refine AE ?_;refine AZ ?_;refine AA ?_;refine A7 ?_;refine AB ?_;refine AE ?_
    refine AU (k + 1) ⟨by omega,by rw [hy,hst]⟩ (by omega) covZ ?_
    rw [take_snoc' hlt,hx,marksOf_snoc];exact selZ
  ·have hst:=sideChk_two (n:=n) (prevAt side k) hlt hin
   have hcs:capacitySpec n l side = (0,2):=by
    unfold capacitySpec
    rw [if_neg (by rw [hc]; simp),hy,hst,if_pos (by simp)]
   refine AD ?_;refine AA ?_;refine BD ?_;refine AE ?_;refine AD ?_;refine AO rfl ?_;refine AK ?_;refine AD ?_;refine AP ?_;refine AD ?_;refine AA ?_;refine AB ?_;refine BQ ?_;refine AF ?_;refine AC ?_;refine AC ?_;refine AE ?_;refine AD ?_;refine AD ?_;refine AA ?_;refine AB ?_;refine AB ?_
   focus ((refine A4 (inside_spec _ _) rfl rfl rdZ rfl rfl ?_; rintro v (⟨rfl,h⟩ | ⟨rfl,h⟩); (focus (exfalso; omega))))
   refine BJ ?_;refine AE ?_;refine AO rfl ?_;refine AD ?_;refine AA ?_;refine AC ?_;refine AC ?_;refine AE ?_
   exact AI (res2 rfl rfl rfl) rsubZ selZ ⟨rfl,by rw [hcs]⟩
 ·obtain rfl:k = side.length:=by omega
  rw [List.take_length] at hml;rw [List.take_length];refine AD ?_;refine AA ?_;refine AY ?_;refine AE ?_;refine AD ?_;refine AN rfl ?_;refine A5 rfl ?_;refine AD ?_;refine AA ?_;refine AB ?_;refine AB ?_
  focus ((refine A4 (capacity_spec ρ v n b n 4 l (marksOf n side) hv (by omega) hok hml) rfl rfl rdZ rfl rfl ?_; rintro _ rfl))
  refine AC ?_;refine AC ?_;refine AE ?_;refine AI (res2 rfl rfl rfl) rsubZ selZ ⟨rfl,?_⟩;unfold capacitySpec
  rw [if_neg (by rw [hc]; simp),hy,List.drop_length]
  rw [if_neg (by simp [sideChk]),capFun_eq n side l hok]

theorem refCapacity_spec (ρ σ:PH) (v u:Value) (n:Int) (l:List Arc) (side:List Int) (hv:ArcsAt ρ v l) (hu:IntsAt σ u side) (hl:l.length ≤ 1000000) (hm:side.length ≤ 1000000) :
  Ans Tryz.prog (fv 74) [int n,v,u] [ρ,σ] (fun r=>r = .tuple #[int (capacitySpec n l side).1,int (capacitySpec n l side).2]):=by
 obtain ⟨q,c,rfl,hr⟩:=hv.val encA_len
 obtain ⟨q2,c2,rfl,hr2⟩:=hu.val Eng.encI_len
 refine spec_in (cap:=[]) Tryz.func74 rfl rfl Tryz.ntmps74 rfl envZ (fun N β=>?_)
 refine AD ?_;refine AA ?_;refine AC ?_;refine AC ?_;refine AE ?_;refine AD ?_;refine AD ?_;refine AA ?_;refine AB ?_;refine AB ?_
 focus ((refine A4 (refCheck_spec ρ _ n l hv hl) rfl rfl rdZ rfl rfl ?_; rintro _ rfl))
 refine AC ?_;refine AE ?_;refine AD ?_;refine AA ?_;refine AB ?_
 by_cases hc:chk n l = 0
 rotate_left
 ·refine CG ?_
  refine AE ?_;refine AO rfl ?_;refine AD ?_;refine AA ?_;refine AB ?_;refine AC ?_;refine AC ?_;refine AE ?_;refine AI (res2 rfl rfl rfl) rsubZ selZ ⟨rfl,?_⟩;unfold capacitySpec; rw [if_pos hc]
 obtain ⟨a1,a2,a3,hok⟩:=chk_ok hc
 obtain ⟨n,rfl⟩:=Int.eq_ofNat_of_zero_le a1
 refine BE ?_;refine AE ?_;refine AN rfl ?_;refine AK ?_;refine AD ?_;refine AA ?_;refine AB ?_;refine D6 ?_; rintro _ _ ⟨b,rfl,rfl⟩;refine AC ?_;refine AE ?_;refine AD ?_;refine AD ?_;refine AA ?_;refine AC ?_;refine AE ?_;refine AP ?_;rw [← marksOf_nil]
 refine BB [0,1,2,9] (0:Nat) (fun k=>k ≤ side.length ∧ sideChk n none side = sideChk n (prevAt side k) (side.drop k)) (fun k=>[(10,int k)]) (fun k=>[sng b (.cells (bools (marksOf n (side.take k))) 4 (0,0))]) (fun k=>side.length - k) pickZ ⟨by omega,by simp [prevAt]⟩ covZ selZ ?_
 rintro k ⟨hk,hy⟩
 have hml:=marksOf_len n (side.take k)
 by_cases hlt:k < side.length
 ·obtain ⟨b2,o2,rfl,g1⟩:=hr2.int (List.getElem?_eq_getElem hlt)
  have g2:1 ≤ k → rdc σ b2 (o2 + (k - 1)) = some (int side[k - 1]):=fun h=>by
   obtain ⟨b3,o3,e,g⟩:=hr2.int (List.getElem?_eq_getElem (show k - 1 < side.length by omega))
   simp only [Option.some.injEq,Addr.mk.injEq,and_true] at e;rw [e.1,e.2]; exact g
  have hin:0 ≤ side[k] ∧ side[k] < (n:Int) ∨ side[k] < 0 ∨ (0 ≤ side[k] ∧ (n:Int) ≤ side[k]):=by omega
  rcases hin with hin | hin
  ·have hpv:k = 0 ∨ (1 ≤ k ∧ side[k] ≤ side[k - 1]) ∨ (1 ≤ k ∧ side[k - 1] < side[k]):=by omega
   have hpa:1 ≤ k → prevAt side k = some side[k - 1]:=fun h=>by
    obtain ⟨j,rfl⟩:∃ j,k = j + 1:=⟨k - 1,by omega⟩
    simp [prevAt]
   obtain ⟨x,hx⟩:=Int.eq_ofNat_of_zero_le hin.1
   rcases hpv with rfl | ⟨h1,h2⟩ | ⟨h1,h2⟩
   ·have hst:=sideChk_step (n:=n) hlt hin.1 hin.2 (by simp [prevAt])
    rw [hx] at g1 hin;refine AD ?_;refine AD ?_;refine AA ?_;refine AB ?_;refine AB ?_;refine AV ?_;refine BD ?_;refine AE ?_;refine AO rfl ?_;refine AK ?_;refine AD ?_;refine AP ?_;refine AD ?_;refine AD ?_;refine AA ?_;refine AB ?_;refine AB ?_;refine BQ ?_;refine AF ?_;refine AY ?_;refine AB ?_;refine AB ?_;refine AB ?_;refine BQ ?_;refine AF ?_;refine AB ?_;refine BO ?_;refine AL ?_;refine AE ?_;refine AN rfl ?_;refine AK ?_;refine AD ?_;refine AD ?_
    refine A6 (.q 0 (.q 1 (.q 2 (.q 3 (.q 4 (.q 5 (.q 6 (.q 7 (.q 8 (.q 9 (.q 10 (.q 11 (.q 12 (.q 13 .nil)))))))))))))) [] rfl (by kernel_rfl) selZ ?_
    refine AJ ?_;refine DH ?_;refine AJ ?_;refine AW rfl rfl rfl rfl rfl ?_;refine AW rfl rfl rfl rfl rfl ?_;refine AW rfl rfl rfl rfl rfl ?_;refine AW rfl rfl rfl rfl rfl ?_;refine AW rfl rfl rfl rfl rfl ?_;refine AW rfl rfl rfl rfl rfl ?_;refine AW rfl rfl rfl rfl rfl ?_;refine AW rfl rfl rfl rfl rfl ?_;refine AW rfl rfl rfl rfl rfl ?_;refine AW rfl rfl rfl rfl rfl ?_;refine BU ?_;refine A8 ?_;refine AN rfl ?_;refine AK ?_;refine AA ?_;refine AB ?_;refine AB ?_;refine AB ?_;refine BQ ?_;refine AF ?_;refine BH ?_;refine CZ ?_; rintro _ _ ⟨rfl,rfl⟩;refine AE ?_;refine AZ ?_;refine AA ?_;refine AB ?_;refine A7 ?_;refine AC ?_;refine AE ?_
    refine AU 1 ⟨by omega,by rw [hy,hst]⟩ (by omega) covZ ?_
    rw [take_snoc' hlt,hx,marksOf_snoc];exact selZ
   ·have hst:=sideChk_nine (n:=n) hlt hin.1 hin.2 (hpa h1) h2
    have hcs:capacitySpec n l side = (0,9):=by
     unfold capacitySpec
     rw [if_neg (by rw [hc]; simp),hy,hst,if_pos (by simp)]
    have g3:=g2 h1
    rw [hx] at g1 hin h2;refine AD ?_;refine AD ?_;refine AA ?_;refine AB ?_;refine AB ?_;refine AV ?_;refine BD ?_;refine AE ?_;refine AO rfl ?_;refine AK ?_;refine AD ?_;refine AP ?_;refine AD ?_;refine AD ?_;refine AA ?_;refine AB ?_;refine AB ?_;refine BQ ?_;refine AF ?_;refine AY ?_;refine AB ?_;refine AB ?_;refine AB ?_;refine BQ ?_;refine AF ?_;refine AB ?_;refine BO ?_;refine AL ?_;refine AE ?_;refine AN rfl ?_;refine AK ?_;refine AD ?_;refine AD ?_
    refine A6 (.q 0 (.q 1 (.q 2 (.q 3 (.q 4 (.q 5 (.q 6 (.q 7 (.q 8 (.q 9 (.q 10 (.q 11 (.q 12 (.q 13 .nil)))))))))))))) [] rfl (by kernel_rfl) selZ ?_
    refine AJ ?_;refine DR ?_;refine AJ ?_;refine AJ ?_;refine AJ ?_;refine CE ?_;refine AR ?_;refine AJ ?_;refine AJ ?_;refine BS ?_;refine CE ?_;refine AR ?_;refine E8 ?_;refine BR ?_;refine A8 ?_;refine AO rfl ?_;refine AD ?_;refine AA ?_;refine AC ?_;refine AC ?_;refine AE ?_
    exact AI (res2 rfl rfl rfl) rsubZ selZ ⟨rfl,by rw [hcs]⟩
   ·have hst:=sideChk_step (n:=n) hlt hin.1 hin.2 (fun p hp=>by rw [hpa h1] at hp; simp at hp; omega)
    have g3:=g2 h1
    rw [hx] at g1 hin h2;refine AD ?_;refine AD ?_;refine AA ?_;refine AB ?_;refine AB ?_;refine AV ?_;refine BD ?_;refine AE ?_;refine AO rfl ?_;refine AK ?_;refine AD ?_;refine AP ?_;refine AD ?_;refine AD ?_;refine AA ?_;refine AB ?_;refine AB ?_;refine BQ ?_;refine AF ?_;refine AY ?_;refine AB ?_;refine AB ?_;refine AB ?_;refine BQ ?_;refine AF ?_;refine AB ?_;refine BO ?_;refine AL ?_;refine AE ?_;refine AN rfl ?_;refine AK ?_;refine AD ?_;refine AD ?_
    refine A6 (.q 0 (.q 1 (.q 2 (.q 3 (.q 4 (.q 5 (.q 6 (.q 7 (.q 8 (.q 9 (.q 10 (.q 11 (.q 12 (.q 13 .nil)))))))))))))) [] rfl (by kernel_rfl) selZ ?_
    refine AJ ?_;refine DR ?_;refine AJ ?_;refine AJ ?_;refine AJ ?_;refine CE ?_;refine AR ?_;refine AJ ?_;refine AJ ?_;refine BS ?_;refine CE ?_;refine AR ?_;refine DS ?_;refine BR ?_;refine A8 ?_;refine AN rfl ?_;refine AK ?_;refine AA ?_;refine AB ?_;refine AB ?_;refine AB ?_;refine BQ ?_;refine AF ?_;refine BH ?_;refine CZ ?_; rintro _ _ ⟨rfl,rfl⟩;refine AE ?_;refine AZ ?_;refine AA ?_;refine AB ?_;refine A7 ?_;refine AC ?_;refine AE ?_
    refine AU (k + 1) ⟨by omega,by rw [hy,hst]⟩ (by omega) covZ ?_
    rw [take_snoc' hlt,hx,marksOf_snoc];exact selZ
  ·have hst:=sideChk_two (n:=n) (prevAt side k) hlt (by omega)
   have hcs:capacitySpec n l side = (0,2):=by
    unfold capacitySpec
    rw [if_neg (by rw [hc]; simp),hy,hst,if_pos (by simp)]
   rcases hin with hin | hin
   all_goals
    repeat' (first
     | (refine AB ?_)
     | (refine AC ?_)
     | (refine AF ?_)
     | (refine BQ ?_)
     | (refine AQ ?_)
     | (refine AL ?_)
     | (refine AV ?_)
     | (refine BD ?_)
     | (refine AY ?_)
     | (refine CK ?_)
     | (refine AD ?_)
     | (refine AA ?_)
     | (refine AE ?_)
     | (refine AP ?_)
     | (refine AK ?_)
     | (refine AO rfl ?_)
     | (refine AH rfl rfl rfl ?_)
     | fail)
    exact AI (res2 rfl rfl rfl) rsubZ selZ ⟨rfl,by rw [hcs]⟩
 obtain rfl:k = side.length:=by omega
 rw [List.take_length] at hml;rw [List.take_length]
 have hchk0:sideChk n none side = 0:=by rw [hy,List.drop_length]; rfl
 refine AD ?_;refine AD ?_;refine AA ?_;refine AB ?_;refine AB ?_;refine AV ?_;refine AY ?_;refine AE ?_;refine AN rfl ?_;refine A5 rfl ?_;refine AD ?_;refine AA ?_;refine AC ?_;refine AE ?_;refine AD ?_;refine AD ?_;refine AA ?_;refine AC ?_;refine AE ?_;refine AP ?_
 refine BB [0,1,2,9] ((0,0):Nat × Int) (fun x=>x.1 ≤ l.length ∧ x.2 = capOf (fun j=>(marksOf n side).getD j false) (l.take x.1)) (fun x=>[(11,int x.2),(12,int x.1)]) (fun _=>[sng b (.cells (bools (marksOf n side)) 4 (0,0))]) (fun x=>l.length - x.1) pickZ ⟨by simp,by simp [capOf]⟩ covZ selZ ?_
 rintro ⟨k,y⟩ ⟨hk,hy⟩;simp only at hk hy
 by_cases hlt:k < l.length
 ·have hx:=List.getElem?_eq_getElem hlt
  obtain ⟨b',o,rfl,hA,h0,h1,h2⟩:=arcRow hr hx
  have hbd:=capOf_bd n (fun j=>(marksOf n side).getD j false) (l.take k) (fun a ha=>hok a (List.mem_of_mem_take ha))
  have hlen:(l.take k).length = k:=by simp; omega
  rw [← hy,hlen] at hbd
  obtain ⟨g1,g2,g3,g4,g5,g6,g7⟩:=okArc_iff.1 (hok l[k] (List.getElem_mem hlt))
  have hstep:capOf (fun j=>(marksOf n side).getD j false) (l.take (k + 1)) = y + (if (marksOf n side).getD l[k].f.toNat false = true ∧ (marksOf n side).getD l[k].t.toNat false = false then l[k].c else 0):=by
   rw [take_snoc' hlt,capOf_snoc,hy]
  obtain ⟨f,hf⟩:=Int.eq_ofNat_of_zero_le g1
  obtain ⟨t,ht⟩:=Int.eq_ofNat_of_zero_le g3
  rw [hf,ht] at hstep;rw [hf] at g2 h0;rw [ht] at g4 h1
  have e1:(marksOf n side)[f]? = some ((marksOf n side).getD f false):=by
   have:f < (marksOf n side).length:=by omega
   simp [this]
  have e2:(marksOf n side)[t]? = some ((marksOf n side).getD t false):=by
   have:t < (marksOf n side).length:=by omega
   simp [this]
  simp only [Int.toNat_natCast] at hstep
  cases c1:(marksOf n side).getD f false with
  | false =>
   rw [c1] at e1
   rw [if_neg (by rw [c1]; simp),Int.add_zero] at hstep
   refine AD ?_;refine AD ?_;refine AA ?_;refine AB ?_;refine AB ?_;refine AV ?_;refine BD ?_;refine AE ?_;refine AO rfl ?_;refine AK ?_;refine AD ?_;refine AP ?_;refine AD ?_;refine AA ?_;refine AB ?_;refine AB ?_;refine AB ?_;refine A3 ?_;refine CH ?_;refine AF ?_;refine BH ?_;refine AF ?_;refine AB ?_;refine AH rfl rfl rfl ?_;refine AH rfl rfl rfl ?_;refine AH rfl rfl rfl ?_;refine AH rfl rfl rfl ?_;refine AH rfl rfl rfl ?_;refine AH rfl rfl rfl ?_;refine AH rfl rfl rfl ?_;refine AH rfl rfl rfl ?_;refine AH rfl rfl rfl ?_;refine AL ?_;refine AE ?_;refine AN rfl ?_;refine AK ?_;refine AZ ?_;refine AA ?_;refine AB ?_;refine A7 ?_;refine AC ?_;refine AE ?_
   exact AU (k + 1,_) ⟨by simp only; omega,hstep.symm⟩ (by simp only; omega) covZ selZ
  | true =>
   rw [c1] at e1
   cases c2:(marksOf n side).getD t false with
   | false =>
    rw [c2] at e2;rw [if_pos ⟨c1,c2⟩] at hstep;refine AD ?_;refine AD ?_;refine AA ?_;refine AB ?_;refine AB ?_;refine AV ?_;refine BD ?_;refine AE ?_;refine AO rfl ?_;refine AK ?_;refine AD ?_;refine AP ?_;refine AD ?_;refine AA ?_;refine AB ?_;refine AB ?_;refine AB ?_;refine A3 ?_;refine CH ?_;refine AF ?_;refine BH ?_;refine AF ?_;refine AB ?_;refine AB ?_;refine AB ?_;refine AB ?_;refine A3 ?_;refine B0 ?_;refine AF ?_;refine BH ?_;refine AF ?_;refine BJ ?_;refine AQ ?_;refine AE ?_;refine AO rfl ?_;refine AA ?_;refine AB ?_;refine AB ?_;refine AB ?_;refine A3 ?_;refine B0 ?_;refine AF ?_;refine CC ?_;refine AC ?_;refine AE ?_;refine AZ ?_;refine AA ?_;refine AB ?_;refine A7 ?_;refine AC ?_;refine AE ?_
    exact AU (k + 1,_) ⟨by simp only; omega,hstep.symm⟩ (by simp only; omega) covZ selZ
   | true =>
    rw [c2] at e2
    rw [if_neg (by rw [c2]; simp),Int.add_zero] at hstep
    refine AD ?_;refine AD ?_;refine AA ?_;refine AB ?_;refine AB ?_;refine AV ?_;refine BD ?_;refine AE ?_;refine AO rfl ?_;refine AK ?_;refine AD ?_;refine AP ?_;refine AD ?_;refine AA ?_;refine AB ?_;refine AB ?_;refine AB ?_;refine A3 ?_;refine CH ?_;refine AF ?_;refine BH ?_;refine AF ?_;refine AB ?_;refine AB ?_;refine AB ?_;refine AB ?_;refine A3 ?_;refine B0 ?_;refine AF ?_;refine BH ?_;refine AF ?_;refine BJ ?_;refine AQ ?_;refine AE ?_;refine AN rfl ?_;refine AK ?_;refine AZ ?_;refine AA ?_;refine AB ?_;refine A7 ?_;refine AC ?_;refine AE ?_
    exact AU (k + 1,_) ⟨by simp only; omega,hstep.symm⟩ (by simp only; omega) covZ selZ
 ·refine AD ?_
  refine AD ?_;refine AA ?_;refine AB ?_;refine AB ?_;refine AV ?_;refine AY ?_;refine AE ?_;refine AN rfl ?_;refine A5 rfl ?_;refine AD ?_;refine AA ?_;refine AB ?_;refine AC ?_;refine AC ?_;refine AE ?_;refine AI (res2 rfl rfl rfl) rsubZ selZ ⟨rfl,?_⟩
  rw [hy,List.take_of_length_le (by omega)]
  unfold capacitySpec
  rw [if_neg (by rw [hc]; simp),if_neg (by rw [hchk0]; simp),capFun_eq n side l hok]
end Go.Proofs.YtphehihohghfoaaGreat
