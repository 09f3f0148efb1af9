/- Texts of this proof, one after the other; no conditions. -/
import Derived.Test.YtjehnjhkcmobcaaGreatWB13
import Derived.Test.YtjehnjhkcmobcaaGreatWB3
import Derived.Test.YtjehnjhkcmobcaaGreatWB9
import Derived.Test.YtjehnjhkcmobcaaGreatWB10
import Derived.Test.YtjehnjhkcmobcaaGreatWB6
import Derived.Test.YtjehnjhkcmobcaaGreatWB2
import Derived.Test.YtjehnjhkcmobcaaGreatWB7
import Derived.Test.YtjehnjhkcmobcaaGreatWB1
import Derived.Test.YtjehnjhkcmobcaaGreatWB8
set_option linter.all false
/- The reference: Max, Cut. -/
namespace Go.Proofs.YtjehnjhkcmobcaaGreat
open Go.Eng Go.Flow
set_option maxRecDepth 100000
set_option maxHeartbeats 64000000
theorem refMax_spec (ρ:PH) (v:Value) (n s t:Int) (l:List Arc) (hv:ArcsAt ρ v l) (hl:l.length≤1000000) :
  Makes Tryz.prog (fv 161) [int n,v,int s,int t] [ρ] (fun r σ=>∃ fs F m e,r=.tuple #[fs,int m,int e]∧IntsAt σ fs F∧MaxOK n l s t F m e):=by
 have hnil:IntsAt emp (.slice none 0 0) []:=⟨rfl,.inl ⟨rfl,none,0,rfl⟩⟩
 have hv2:=hv
 obtain ⟨q,c,rfl,hr⟩:=hv.val encA_len
 refine spec_in (cap:=[]) Tryz.func161 rfl rfl Tryz.ntmps161 rfl envZ (fun N β=>?_)
 refine Aa ?_;refine Agx ?_;refine Abp ?_;refine BC (refEnds_spec ρ _ n s t l hv2 hl) rfl rfl rdZ rfl rfl ?_;rintro _ rfl
 have hme:maxErr n l s t=(if chk n l≠0 then chk n l else if okEnds n s t=true then 0 else 2):=rfl
 rw [← hme]
 by_cases h0:maxErr n l s t=0
 rotate_left
 ·refine AD ?_
  refine Aej ?_;refine CJ ?_;refine Ac0 ?_;refine Acy ?_;refine BZ ?_;exact AO (res3 rfl rfl rfl rfl) rsubZ selZ ⟨emp,⟨_,[],0,_,rfl,hnil,.inl ⟨h0,rfl,rfl,rfl⟩⟩,rfl⟩
 rw [h0]
 obtain ⟨n',s',t',g⟩:=maxErr_good h0
 obtain ⟨rfl,rfl,rfl⟩:=And.intro g.en (And.intro g.es g.et)
 have hn2:=g.n2
 have hl2:=g.l2
 have hrl:=rl_lt g.ok
 have hcap:∀ a∈l,0≤a.c∧a.c≤1099511627776:=fun a ha=>by have:=okArc_iff.1 (g.ok a ha); omega
 refine Ahd ?_;refine Aac ?_;refine AU ?_;refine DX ?_; rintro _ _ ⟨b,rfl,rfl⟩;refine Aaa ?_;refine Aai ?_;refine Aap ?_
 revert b; intro bf
 refine BA [0,1,2,3,12] (List.replicate l.length (0:Int)) (fun fl=>Flw n' l s' t' fl∧∀ F,RunR n' l s' t' fl F→RunR n' l s' t' (List.replicate l.length 0) F) (fun fl=>[(13,int (fval s' l fl))])
  (fun fl=>[sng bf (.cells (ints fl) 3 (0,0))]) (fun fl=>(1099511627776*(2*(l.length:Int))-fval s' l fl).toNat) pickZ ⟨flw_zeros g.ok,fun _ h=>h⟩ (by rw [fval_zeros]; exact covZ) selZ ?_
 rintro fl ⟨hF,hrun⟩
 dsimp only
 have hIf:IntsAt (sng bf (.cells (ints fl) 3 (0,0))) (.slice (some ⟨bf,0,none⟩) l.length l.length) fl:=by rw [hF.len]; exact intsAt_sng
 have hb0:=fval_bd s' l fl (inCap_small l _ hF.len hF.cap g.ok)
 rw [← hF.len] at hb0;refine AC ?_;refine AL rfl ?_;refine Ae8 ?_;refine Aev ?_;refine BV (refResidual_spec ρ _ _ _ n' l fl hv2 hIf g.l2 hF.len.symm g.ok hF.cap) rfl rfl rdZ rfl rfl ?_;rintro _ τ ⟨br,rfl,rfl⟩
 have hSl:SlE (encR (rmR l fl)) 3 (sng br (.cells (elems (encR (rmR l fl)) (rlinks l)) 253 (0,0))) (.slice (some ⟨br,0,none⟩) (2*l.length) (2*l.length)) (rlinks l):=by
  have h9:=slE_sng (encR_len (rmR l fl)) (b:=br) (l:=rlinks l) (t:=253) (fr:=(0,0)) (c:=2*l.length)
  rw [rlinks_len] at h9;exact h9
 refine Aao ?_
 refine BV (refPath_spec _ _ n' s' t' (rlinks l) (rmR l fl) hSl hrl (rlinks_at l) g.n2 (by rw [rlinks_len]; omega) g.sn g.tn) rfl rfl rdZ rfl rfl ?_
 rintro _ ρp ⟨D,pv,hD,rfl,hP⟩
 by_cases hd0:0≤D.getD s' 0
 rotate_left
 ·have hpn:pathD (nxt (rlinks l) (rmR l fl) D) D s'=[]:=pathD_end (by omega)
  obtain ⟨q2,c2,rfl⟩:∃ p c,pv=.slice p 0 c:=by
   have h9:=SlAt.cap hP.at
   rw [hpn] at h9;exact h9
  refine Ab0 ?_;refine Abg ?_;refine Ag1 ?_;refine Aay ?_;refine Acy ?_
  exact AO (res3 rfl rfl rfl rfl) rsubZ selZ ⟨_,⟨_,fl,_,_,rfl,hIf,.inr ⟨h0,rfl,hrun fl (.done hD (by omega)),rfl⟩⟩,rfl⟩
 obtain ⟨hN1,hN2,hN3⟩:=rNext_ok g.ok g.sn g.ne hF hD hd0
 obtain ⟨k0,hk0⟩:=Int.eq_ofNat_of_zero_le hd0
 have hDn:=hD.lt (fun x hx=>hrl x hx.1) g.tn g.sn
 have hPl:(rP l fl D s').length=k0:=path_len hrl hD k0 s' g.sn hk0
 have hk1:k0≠0:=fun h=>by
  subst h
  exact g.ne (hD.zero s' g.sn (by omega))
 have hPm:∀ x∈rP l fl D s',x∈rlinks l:=fun x hx=>((path_chn hrl hD k0 s' g.sn hk0).all x hx).1.1
 have hroom:leastR (rmR l fl) (rP l fl D s')≤1099511627776:=(leastR_le _ _ _).1
 have hrl2:rmin (rmR l fl) (rP l fl D s')=leastR (rmR l fl) (rP l fl D s'):=rmin_least _ _ (fun h=>by rw [h] at hPl; simp at hPl; omega) (fun x hx=>rmR_le g.ok hF.len hF.cap (hPm x hx))
 rw [hrl2]
 have hIn:IntsAt ρp pv (ksOf (rP l fl D s')):=ownInts (e:=3) (by rw [show (ksOf (rP l fl D s')).length=(rP l fl D s').length from by simp [ksOf]]; exact hP)
 obtain ⟨q2,c2,rfl,hr2⟩:=hIn.val Eng.encI_len
 have hkl:(ksOf (rP l fl D s')).length=(rP l fl D s').length:=by simp [ksOf]
 have hmu:=fval_bd s' l (rNext l fl D s') (inCap_small l _ hN1.len hN1.cap g.ok)
 rw [← hN1.len] at hmu;refine Ab0 ?_;refine Abg ?_;refine Adu ?_;refine Acv ?_
 refine BA [0,1,2,3,12,13,14,15] (0:Nat) (fun i=>i≤(rP l fl D s').length) (fun i=>[(16,int i)])
  (fun i=>[sng bf (.cells (ints (augAll (leastR (rmR l fl) (rP l fl D s')) fl ((rP l fl D s').take i))) 3 (0,0)),ρp])
  (fun i=>(rP l fl D s').length-i) pickZ (by omega) covZ selZ ?_
 intro i hi
 by_cases hlt:i<(rP l fl D s').length
 ·have hx:(ksOf (rP l fl D s'))[i]?=some ((rP l fl D s')[i].k:Int):=by simp [ksOf,hlt]
  obtain ⟨b,o,rfl,g0⟩:=hr2.int hx
  have hxm:=hPm _ (List.getElem_mem hlt)
  have hxk:=(rlinks_mem g.ok hxm).2.2
  have hal:(augAll (leastR (rmR l fl) (rP l fl D s')) fl ((rP l fl D s').take i)).length=l.length:=by rw [augAll_len]; exact hF.len.symm
  have hic:=inCap_get l _ (rTake_cap g.ok g.sn hF hD hd0 i) ((rP l fl D s')[i].k / 2) (l[(rP l fl D s')[i].k / 2]'(by omega)) ((augAll (leastR (rmR l fl) (rP l fl D s')) fl ((rP l fl D s').take i)).getD ((rP l fl D s')[i].k / 2) 0) (List.getElem?_eq_getElem (by omega)) (by rw [List.getD_eq_getElem?_getD,List.getElem?_eq_getElem (by omega)]; rfl)
  have hcc:=hcap _ (List.getElem_mem (show (rP l fl D s')[i].k / 2<l.length by omega))
  have hsn:=augAll_snoc (leastR (rmR l fl) (rP l fl D s')) fl ((rP l fl D s').take i) (rP l fl D s')[i]
  rw [← take_snoc' hlt] at hsn;unfold augR at hsn
  by_cases hp:(rP l fl D s')[i].k % 2=0
  ·rw [if_pos hp] at hsn
   refine Ac7 ?_;refine Acb ?_;refine EW ?_;refine Ag1 ?_;refine Ac8 ?_;refine Acb ?_;refine ET ?_;refine Afn ?_;refine CB ?_;refine BR ?_;refine DA ?_; rintro _ _ ⟨rfl,rfl⟩;refine Ag5 ?_
   refine AT (i+1) (by omega) (by omega) covZ ?_
   rw [hsn];exact selZ
  ·rw [if_neg hp] at hsn
   refine Ac7 ?_;refine Acb ?_;refine EW ?_;refine CE ?_;refine Aaf ?_;refine Ac8 ?_;refine Acb ?_;refine ET ?_;refine Afn ?_;refine CP ?_;refine BR ?_;refine DA ?_; rintro _ _ ⟨rfl,rfl⟩;refine Ag5 ?_
   refine AT (i+1) (by omega) (by omega) covZ ?_
   rw [hsn];exact selZ
 ·refine AC ?_
  refine Aea ?_;refine Abv ?_;refine Ac3 ?_;refine Adv ?_;refine A2 ?_
  refine AT (rNext l fl D s') ⟨hN1,fun F hR=>hrun F (.step hD hd0 hR)⟩ (by omega) (by rw [hN3]; exact covZ) ?_
  rw [List.take_of_length_le (by omega)]
  exact selZ
theorem refCut_spec (ρ:PH) (v:Value) (n s t:Int) (l:List Arc) (hv:ArcsAt ρ v l) (hl:l.length≤1000000) :
  Makes Tryz.prog (fv 106) [int n,v,int s,int t] [ρ] (fun r σ=>∃ fs side c e,r=.tuple #[fs,int c,int e]∧IntsAt σ fs side∧CutOK n l s t side c e):=by
 have hnil:IntsAt emp (.slice none 0 0) []:=⟨rfl,.inl ⟨rfl,none,0,rfl⟩⟩
 refine spec_in (cap:=[]) Tryz.func106 rfl rfl Tryz.ntmps106 rfl envZ (fun N β=>?_)
 refine Aa ?_;refine Acy ?_;refine Aac ?_;refine Abp ?_;refine BV (refMax_spec ρ v n s t l hv hl) rfl rfl rdZ rfl rfl ?_;rintro _ σ1 ⟨fs,F,m,e,rfl,hI1,hM⟩
 rcases hM with ⟨a1,rfl,rfl,rfl⟩|⟨h0,rfl,hR,rfl⟩
 ·refine AB ?_
  refine Aa8 ?_;refine AP ?_;refine Agx ?_;refine CJ ?_;refine Ac0 ?_;refine Acy ?_;refine BZ ?_;exact AO (res3 rfl rfl rfl rfl) rsubZ selZ ⟨emp,⟨_,[],0,_,rfl,hnil,.inl ⟨a1,rfl,rfl,rfl⟩⟩,rfl⟩
 obtain ⟨n',s',t',g⟩:=maxErr_good h0
 have g':=g
 obtain ⟨rfl,rfl,rfl⟩:=And.intro g.en (And.intro g.es g.et)
 simp only [Int.toNat_natCast] at hR
 have hn2:=g.n2
 have hl2:=g.l2
 have hsn:=g.sn
 have hrl:=rl_lt g.ok
 have hF:=(hR.flw g.ok g.sn g.ne (flw_zeros g.ok)).1
 have hE:∀ x,rE l F x→x.f<n'∧x.t<n':=fun x hx=>hrl x hx.1
 have hrep:(List.replicate n' false).length=n':=by simp
 have hlen:=rlinks_len l
 refine Ab ?_;refine AP ?_;refine Agx ?_;refine Abh ?_;refine Aay ?_;refine BV (refResidual_spec ρ σ1 v fs n' l F hv hI1 g.l2 hF.len.symm g.ok hF.cap) rfl rfl rdZ rfl rfl ?_;rintro _ τ ⟨br,rfl,rfl⟩;refine AW (ρ:=sng br _) takeZ ?_
 have hSl:SlE (encR (rmR l F)) 3 (sng br (.cells (elems (encR (rmR l F)) (rlinks l)) 253 (0,0))) (.slice (some ⟨br,0,none⟩) (2*l.length) (2*l.length)) (rlinks l):=by
  have h9:=slE_sng (encR_len (rmR l F)) (b:=br) (l:=rlinks l) (t:=253) (fr:=(0,0)) (c:=2*l.length)
  rw [rlinks_len] at h9;exact h9
 have hrows:∀ i x,(rlinks l)[i]?=some x→rdc (sng br (.cells (elems (encR (rmR l F)) (rlinks l)) 253 (0,0))) br (0+i*3)=some (int x.f)∧rdc (sng br (.cells (elems (encR (rmR l F)) (rlinks l)) 253 (0,0))) br (0+i*3+1)=some (int x.t)∧rdc (sng br (.cells (elems (encR (rmR l F)) (rlinks l)) 253 (0,0))) br (0+i*3+2)=some (int (rmR l F x.k)):=fun i x hx=>by
  obtain ⟨p,c,e1,hr⟩:=hSl.val (encR_len _)
  obtain ⟨b1,o1,e2,k0,k1,k2⟩:=lrRow hr hx
  simp only [Value.slice.injEq] at e1;rw [← e1.1] at e2;simp only [Option.some.injEq,Addr.mk.injEq,and_true] at e2
  obtain ⟨rfl,rfl⟩:=e2
  exact ⟨k0,k1,k2⟩
 refine Abr ?_;refine EN ?_; rintro _ _ ⟨b,rfl,rfl⟩;refine Ae4 ?_;refine BR ?_;refine DM ?_; rintro _ _ ⟨rfl,rfl⟩;refine Aat ?_;refine Abw ?_
 revert b; intro bm
 refine BA [0,1,2,3,14,15] (X:=Nat × List Bool) (0,(List.replicate n' false).set s' true) (fun x=>x.1≤n'∧KInv n' s' (rE l F) x.2 x.1 []) (fun x=>[(16,int x.1)]) (fun x=>[sng bm (.cells (bools x.2) 4 (0,0))]) (fun x=>n'-x.1)
  pickZ ⟨by dsimp only; omega,KInv.start hsn⟩ covZ selZ ?_
 rintro ⟨r,B⟩ ⟨hr1,hK⟩
 dsimp only at hr1 hK ⊢
 by_cases hlt:r<n'
 ·refine AC ?_
  refine Aay ?_;refine Aa9 ?_;refine Abw ?_
  refine BA [0,1,2,3,14,15,16] (X:=Nat × List Bool) (0,B) (fun x=>x.1≤(rlinks l).length∧KInv n' s' (rE l F) x.2 r ((rlinks l).take x.1)) (fun x=>[(17,int x.1)]) (fun x=>[sng bm (.cells (bools x.2) 4 (0,0))]) (fun x=>(rlinks l).length-x.1)
   pickZ ⟨by dsimp only; omega,by simpa using hK⟩ covZ selZ ?_
  rintro ⟨i,B1⟩ ⟨hi,hK1⟩
  dsimp only at hi hK1 ⊢
  have hBl1:B1.length=n':=hK1.len
  by_cases hlt2:i<(rlinks l).length
  ·have hx:=List.getElem?_eq_getElem hlt2
   obtain ⟨g0,g1,g2⟩:=hrows i _ hx
   have hxn:=hrl _ (List.getElem_mem hlt2)
   have htk:=take_snoc' hlt2
   have hbx:=bget_some (B:=B1) (v:=(rlinks l)[i].f) (by omega)
   by_cases hp:0<rmR l F (rlinks l)[i].k
   ·cases hb:bget B1 (rlinks l)[i].f with
    | true =>
     rw [hb] at hbx
     have hm:=hK1.mark (x:=(rlinks l)[i]) ⟨List.getElem_mem hlt2,hp⟩ hxn.2 hxn.1 hb
     refine Agg ?_;refine CT ?_;refine Ad0 ?_;refine Afp ?_;refine Adf ?_;refine Aez ?_;refine Af7 ?_;refine BR ?_;refine DM ?_; rintro _ _ ⟨rfl,rfl⟩;refine Ag5 ?_
     refine AT (i+1,_) ⟨by dsimp only; omega,?_⟩ (by dsimp only; omega) covZ selZ
     dsimp only
     rw [htk]; exact hm
    | false =>
     rw [hb] at hbx
     have hm:=hK1.skip (x:=(rlinks l)[i]) (fun _=>hb) hE
     refine Agg ?_;refine CT ?_;refine Ad0 ?_;refine Afp ?_;refine Adf ?_;refine Agq ?_
     refine AT (i+1,B1) ⟨by dsimp only; omega,?_⟩ (by dsimp only; omega) covZ selZ
     dsimp only
     rw [htk]; exact hm
   ·have hm:=hK1.skip (x:=(rlinks l)[i]) (fun h=>absurd h.2 hp) hE
    refine Agg ?_;refine B7 ?_;refine Adh ?_;refine Aab ?_;refine Abn ?_;refine Aa2 ?_
    refine AT (i+1,B1) ⟨by dsimp only; omega,?_⟩ (by dsimp only; omega) covZ selZ
    dsimp only
    rw [htk]; exact hm
  ·rw [List.take_of_length_le (by omega)] at hK1
   have hnx:=hK1.next (ls:=rlinks l) (fun x hx=>hx.1) (fun x hx=>hx) hsn
   refine Aci ?_;refine Aa2 ?_
   exact AT (r+1,B1) ⟨by dsimp only; omega,hnx⟩ (by dsimp only; omega) covZ selZ
 obtain rfl:r=n':=by omega
 have hreach:=hK.reach hE hsn
 have hBl:=hK.len
 refine BZ ?_;refine Aav ?_;refine Abv ?_;refine Af5 ?_
 refine BA [0,1,15] (X:=Nat × (Value × PH)) (0,(.slice none 0 0,emp)) (fun x=>x.1≤r∧OwnS 3 1 x.2.1 (sideOf B x.1).length ((sideOf B x.1).map int) x.2.2) (fun x=>[(18,x.2.1),(19,int x.1)])
  (fun x=>[sng bm (.cells (bools B) 4 (0,0)),x.2.2]) (fun x=>r-x.1) pickZ ⟨by dsimp only; omega,OwnS.nil _ _⟩ covZ selZ ?_
 rintro ⟨k,⟨sv,ρs⟩⟩ ⟨hk,hS⟩
 dsimp only at hk hS ⊢
 have hsl:=sideOf_len B k
 have hsu:=sideOf_succ B k
 by_cases hlt3:k<r
 ·have hbk:=bget_some (B:=B) (v:=k) (by omega)
  cases hb:bget B k with
  | true =>
   rw [hb] at hbk hsu;rw [if_pos rfl] at hsu;refine Aav ?_;refine Aa9 ?_;refine Aay ?_;refine Adf ?_;refine Aag ?_;refine Ac3 ?_;refine AZ ?_; rintro _ _ ⟨b,rfl,rfl⟩
   refine BH (BI (by_:=8) (s:=1) (news:=[int (k:Int)]) rfl rfl rfl rfl rfl rfl rfl hS takeZ (cells_own memZ) rfl oneZ (by omega) (by simp only [maxLen]; omega) (by omega)) rfl rfl rfl ?_
   rintro q9 _ ⟨ρ3,hQ3,rfl⟩;refine Adb ?_
   refine AT (k+1,(q9,ρ3)) ⟨by dsimp only; omega,?_⟩ (by dsimp only; omega) covZ selZ
   dsimp only
   rw [hsu,List.map_append,List.length_append];exact hQ3
  | false =>
   rw [hb] at hbk hsu
   rw [if_neg (by simp),List.append_nil] at hsu
   refine Aav ?_;refine Aa9 ?_;refine Aay ?_;refine Adf ?_;refine Aak ?_;refine Aa2 ?_
   refine AT (k+1,(sv,ρs)) ⟨by dsimp only; omega,?_⟩ (by dsimp only; omega) covZ selZ
   dsimp only
   rw [hsu];exact hS
 ·obtain rfl:k=r:=by omega
  have hIs:=ownInts (e:=3) (l:=sideOf B k) hS
  refine Aav ?_;refine Abv ?_;refine Aev ?_
  refine BC (refCapacity_spec ρ ρs v sv k l (sideOf B k) hv hIs hl (by omega)) rfl rfl rdZ rfl rfl ?_
  rintro _ rfl;rw [side_capacity g' (.inr trivial)]
  dsimp only
  refine Adn ?_;refine Aao ?_;refine Acy ?_;exact AO (res3 rfl rfl rfl rfl) rsubZ selZ ⟨_,⟨sv,sideOf B k,_,_,rfl,hIs,.inr ⟨h0,rfl,F,B,hR,hreach,rfl,rfl⟩⟩,rfl⟩
end Go.Proofs.YtjehnjhkcmobcaaGreat
namespace Go.Eng
variable {L:Env} {R H:List PH}
theorem resSEE {fn:Func} {N:Bs} {M:Nat} {P:Program} {t u u' b1:Nat} {T:TypeId} {v1:List Value} {v2 v3:Value} (hr:fn.results = #[.cell t T,.tmp u,.tmp u']) (ht:look L t=some (.pointer (some ⟨b1,0,none⟩))) (hu:look L u=some v2) (hu':look L u'=some v3) (a1:aggP P T=some true)
    (n1:szP P T=some v1.length) (c1:Cells N R H b1 0 v1):∀ a w,Frm M L a→Sat N R H w→(results fn a.tmps).run P w=.ok (.tuple #[.agg v1.toArray,v2,v3]) w:=by
  intro a w hf hs
  have e1:a.tmps[t]?.getD undef=.pointer (some ⟨b1,0,none⟩):=by simpa using hf.get t _ ht
  have e2:a.tmps[u]?.getD undef=v2:=by simpa using hf.get u _ hu
  have e3:a.tmps[u']?.getD undef=v3:=by simpa using hf.get u' _ hu'
  have l1:=run_loadCells_list (P:=P) (w:=w) ⟨b1,0,none⟩ v1 (fun j v hv=>by rw [Addr.add_lit]; exact c1 w hs j v hv)
  simp [results,hr,e1,e2,e3,loadVar,run_isAgg a1,run_sizeOf n1,l1,asAddr]
theorem resSEEE {fn:Func} {N:Bs} {M:Nat} {P:Program} {t u u' u'' b1:Nat} {T:TypeId} {v1:List Value} {v2 v3 v4:Value} (hr:fn.results = #[.cell t T,.tmp u,.tmp u',.tmp u'']) (ht:look L t=some (.pointer (some ⟨b1,0,none⟩))) (hu:look L u=some v2) (hu':look L u'=some v3) (hu'':look L u''=some v4) (a1:aggP P T=some true)
    (n1:szP P T=some v1.length) (c1:Cells N R H b1 0 v1):∀ a w,Frm M L a→Sat N R H w→(results fn a.tmps).run P w=.ok (.tuple #[.agg v1.toArray,v2,v3,v4]) w:=by
  intro a w hf hs
  have e1:a.tmps[t]?.getD undef=.pointer (some ⟨b1,0,none⟩):=by simpa using hf.get t _ ht
  have e2:a.tmps[u]?.getD undef=v2:=by simpa using hf.get u _ hu
  have e3:a.tmps[u']?.getD undef=v3:=by simpa using hf.get u' _ hu'
  have e4:a.tmps[u'']?.getD undef=v4:=by simpa using hf.get u'' _ hu''
  have l1:=run_loadCells_list (P:=P) (w:=w) ⟨b1,0,none⟩ v1 (fun j v hv=>by rw [Addr.add_lit]; exact c1 w hs j v hv)
  simp [results,hr,e1,e2,e3,e4,loadVar,run_isAgg a1,run_sizeOf n1,l1,asAddr]
end Go.Eng
namespace Go.Proofs.YtjehnjhkcmobcaaGreat
open Go.Eng Go.Step
set_option maxRecDepth 100000
set_option maxHeartbeats 64000000
theorem plMax_spec {ρ τ σ υ:PH} {pq pc pb ph:Option Addr} {kq kc kb kh:Nat} {qs:List Int} {cs:List Ct} {bs:List Bk} {hs:List Hd} (hT:TbAt ρ τ σ υ pq pc pb ph kq kc kb kh qs cs bs hs) (d:Dm) :
  Eng.Spec Tryz.prog (fv 28) [.agg #[.slice pq qs.length kq,.slice pc cs.length kc,.slice pb bs.length kb,.slice ph hs.length kh],.agg #[int d.s,int d.d,int d.v,int d.r,int d.e]] [ρ,τ,σ,υ] [] (fun r H'=>(validT qs cs bs hs d=true∧∃ (pg:Option Addr) (kg:Nat) (pf:Option Addr) (kf:Nat) (F:List Int) (m:Int) (σg σf:PH),ArcsAt σg (.slice pg (arcsG qs cs bs hs d).length kg) (arcsG qs cs bs hs d)∧IntsAt σf (.slice pf F.length kf) F∧MaxN qs cs bs hs d F m 0∧H'=[σg,σf]∧r=.tuple #[.agg #[int (vsN qs d),.slice pg (arcsG qs cs bs hs d).length kg,int (vtx d d.s d.r),int (vtx d d.d d.e)],.slice pf F.length kf,int m,int 0])∨(validT qs cs bs hs d=false∧H'=[]∧r=.tuple #[.agg #[int 0,.slice none 0 0,int 0,int 0],.slice none 0 0,int 0,int 1])):=by
 refine spec_in (cap:=[]) Tryz.func28 rfl rfl Tryz.ntmps28 rfl envZ (fun N β=>?_)
 refine Aa ?_;refine BH (BO rfl) rfl rfl rfl ?_;rintro _ _ ⟨b1,rfl,rfl⟩;refine AW (ρ:=sng b1 _) takeZ ?_
 have ct:=rdB b1 29 [.slice pq qs.length kq,.slice pc cs.length kc,.slice pb bs.length kb,.slice ph hs.length kh]
 have ct0:=rdC ct 0
 have ct1:=rdC ct 1
 have ct2:=rdC ct 2
 have ct3:=rdC ct 3
 have ctp:=rdQ (xs:=[_,_]) ct
 refine BH (BO rfl) rfl rfl rfl ?_;rintro _ _ ⟨b2,rfl,rfl⟩;refine AW (ρ:=sng b2 _) takeZ ?_
 have cd:=rdB b2 31 [int d.s,int d.d,int d.v,int d.r,int d.e]
 have cd0:=rdC cd 0
 have cd1:=rdC cd 1
 have cd2:=rdC cd 2
 have cd3:=rdC cd 3
 have cd4:=rdC cd 4
 refine A4 ?_; rintro _ _ ⟨b,rfl,rfl⟩;refine Acy ?_;refine Acu ?_
 revert b; intro b4
 refine BV (Graph_spec hT d) rfl rfl rdZ rfl rfl ?_;rintro _ σg hg
 cases hv:validT qs cs bs hs d with
 | false =>
  rw [hv,if_neg (by simp)] at hg
  obtain ⟨rfl,rfl⟩:=hg
  refine Ab ?_;refine A4 ?_; rintro _ _ ⟨b,rfl,rfl⟩;refine AY ?_; rintro _ _ ⟨rfl,rfl⟩;refine Adz ?_;refine Ae0 ?_;refine BY ?_;refine AY ?_; rintro _ _ ⟨rfl,rfl⟩;refine Acy ?_;exact AO (resSEEE (b1:=b4) (T:=75) (v1:=[int 0,.slice none 0 0,int 0,int 0]) rfl rfl rfl rfl rfl rfl rfl (cells_own memZ)) rsubZ selZ (.inr ⟨rfl,rfl,rfl⟩)
 | true =>
 rw [hv,if_pos rfl] at hg
 obtain ⟨ug,rfl,hOg⟩:=hg
 have hAt:ArcsAt σg ug (arcsG qs cs bs hs d):=hOg.at
 obtain ⟨pg,kg,rfl⟩:=hOg.form
 have h:=vok hv
 have hEl:=ea_len qs cs bs hs d h
 have hAl:(arcsG qs cs bs hs d).length=(arcsE qs cs bs hs d).length:=by unfold arcsG; rw [List.length_map]
 have hM:=flowMax_spec σg (.slice pg (arcsG qs cs bs hs d).length kg) (vsN qs d) (vtx d d.s d.r) (vtx d d.d d.e) (arcsG qs cs bs hs d) hAt (by omega)
 refine Ab ?_;refine A4 ?_; rintro _ _ ⟨b,rfl,rfl⟩;refine AY ?_; rintro _ _ ⟨rfl,rfl⟩;refine Adz ?_;refine Abh ?_;refine Ab4 ?_;refine Afc ?_;refine BV hM rfl rfl rdZ rfl rfl ?_;rintro _ σf ⟨fs,F,m,e,rfl,hF,hm⟩
 obtain ⟨he,_⟩:=max_cut h (show MaxN qs cs bs hs d F m e from hm)
 subst he
 obtain ⟨pf,kf,rfl,_⟩:=hF.val Eng.encI_len
 refine Ab ?_;refine AP ?_;refine Agx ?_;refine Abh ?_;refine Abt ?_;refine Aao ?_;refine AY ?_; rintro _ _ ⟨rfl,rfl⟩;refine Acy ?_;exact AO (resSEEE (b1:=b4) (T:=75) (v1:=[int (vsN qs d),.slice pg (arcsG qs cs bs hs d).length kg,int (vtx d d.s d.r),int (vtx d d.d d.e)]) rfl rfl rfl rfl rfl rfl rfl (cells_own memZ)) rsubZ selZ (.inl ⟨rfl,pg,kg,pf,kf,F,m,σg,σf,hAt,hF,hm,rfl,rfl⟩)
theorem Most_spec {ρ τ σ υ:PH} {pq pc pb ph:Option Addr} {kq kc kb kh:Nat} {qs:List Int} {cs:List Ct} {bs:List Bk} {hs:List Hd} (hT:TbAt ρ τ σ υ pq pc pb ph kq kc kb kh qs cs bs hs) (d:Dm) :
  Ans Tryz.prog (fv 8) [.agg #[.slice pq qs.length kq,.slice pc cs.length kc,.slice pb bs.length kb,.slice ph hs.length kh],.agg #[int d.s,int d.d,int d.v,int d.r,int d.e]] [ρ,τ,σ,υ] (fun r=>(validT qs cs bs hs d=true∧∃ (F:List Int) (m:Int),MaxN qs cs bs hs d F m 0∧r=.tuple #[int m,int 0])∨(validT qs cs bs hs d=false∧r=.tuple #[int 0,int 1])):=by
 refine spec_in (cap:=[]) Tryz.func8 rfl rfl Tryz.ntmps8 rfl envZ (fun N β=>?_)
 refine Aa ?_;refine BH (BO rfl) rfl rfl rfl ?_;rintro _ _ ⟨b1,rfl,rfl⟩;refine AW (ρ:=sng b1 _) takeZ ?_
 have ct:=rdB b1 29 [.slice pq qs.length kq,.slice pc cs.length kc,.slice pb bs.length kb,.slice ph hs.length kh]
 have ct0:=rdC ct 0
 have ct1:=rdC ct 1
 have ct2:=rdC ct 2
 have ct3:=rdC ct 3
 have ctp:=rdQ (xs:=[_,_]) ct
 refine BH (BO rfl) rfl rfl rfl ?_;rintro _ _ ⟨b2,rfl,rfl⟩;refine AW (ρ:=sng b2 _) takeZ ?_
 have cd:=rdB b2 31 [int d.s,int d.d,int d.v,int d.r,int d.e]
 have cd0:=rdC cd 0
 have cd1:=rdC cd 1
 have cd2:=rdC cd 2
 have cd3:=rdC cd 3
 have cd4:=rdC cd 4
 refine Aal ?_;refine Acu ?_;refine BL (plMax_spec hT d) rfl rfl Takes.nil rdZ rfl rfl ?_;rintro _ H' (⟨hv,pg,kg,pf,kf,F,m,σg,σf,hAt,hF,hm,rfl,rfl⟩|⟨hv,rfl,rfl⟩)
 ·refine AB ?_
  refine Aa8 ?_;refine Aa8 ?_;refine A4 ?_; rintro _ _ ⟨b,rfl,rfl⟩;refine AY ?_; rintro _ _ ⟨rfl,rfl⟩;refine Acy ?_;refine Aay ?_;refine Aal ?_;exact AO (res2 rfl rfl rfl) rsubZ selZ ⟨rfl,.inl ⟨hv,F,m,hm,rfl⟩⟩
 ·refine AB ?_
  refine Aa8 ?_;refine Aa8 ?_;refine A4 ?_; rintro _ _ ⟨b,rfl,rfl⟩;refine AY ?_; rintro _ _ ⟨rfl,rfl⟩;refine Acy ?_;refine Aay ?_;refine Aal ?_;exact AO (res2 rfl rfl rfl) rsubZ selZ ⟨rfl,.inr ⟨hv,rfl⟩⟩
theorem refmost_spec {ρ τ σ υ:PH} {pq pc pb ph:Option Addr} {kq kc kb kh:Nat} {qs:List Int} {cs:List Ct} {bs:List Bk} {hs:List Hd} (hT:TbAt ρ τ σ υ pq pc pb ph kq kc kb kh qs cs bs hs) (d:Dm) (hv:validT qs cs bs hs d=true) :
  Eng.Spec Tryz.prog (fv 105) [.agg #[.slice pq qs.length kq,.slice pc cs.length kc,.slice pb bs.length kb,.slice ph hs.length kh],.agg #[int d.s,int d.d,int d.v,int d.r,int d.e]] [ρ,τ,σ,υ] [] (fun r H'=>∃ (pg:Option Addr) (kg:Nat) (pf:Option Addr) (kf:Nat) (F:List Int) (m:Int) (σg σf:PH),ArcsAt σg (.slice pg (arcsG qs cs bs hs d).length kg) (arcsG qs cs bs hs d)∧IntsAt σf (.slice pf F.length kf) F∧MaxN qs cs bs hs d F m 0∧H'=[σg,σf]∧r=.tuple #[.agg #[int (vsN qs d),.slice pg (arcsG qs cs bs hs d).length kg,int (vtx d d.s d.r),int (vtx d d.d d.e)],.slice pf F.length kf,int m]):=by
 refine spec_in (cap:=[]) Tryz.func105 rfl rfl Tryz.ntmps105 rfl envZ (fun N β=>?_)
 refine Aa ?_;refine BH (BO rfl) rfl rfl rfl ?_;rintro _ _ ⟨b1,rfl,rfl⟩;refine AW (ρ:=sng b1 _) takeZ ?_
 have ct:=rdB b1 29 [.slice pq qs.length kq,.slice pc cs.length kc,.slice pb bs.length kb,.slice ph hs.length kh]
 have ct0:=rdC ct 0
 have ct1:=rdC ct 1
 have ct2:=rdC ct 2
 have ct3:=rdC ct 3
 have ctp:=rdQ (xs:=[_,_]) ct
 refine BH (BO rfl) rfl rfl rfl ?_;rintro _ _ ⟨b2,rfl,rfl⟩;refine AW (ρ:=sng b2 _) takeZ ?_
 have cd:=rdB b2 31 [int d.s,int d.d,int d.v,int d.r,int d.e]
 have cd0:=rdC cd 0
 have cd1:=rdC cd 1
 have cd2:=rdC cd 2
 have cd3:=rdC cd 3
 have cd4:=rdC cd 4
 refine A4 ?_; rintro _ _ ⟨b,rfl,rfl⟩;refine Aal ?_;refine Acu ?_
 revert b; intro b4
 refine BV (refGraph53_spec hT d) rfl rfl rdZ rfl rfl ?_;rintro _ σg hg;rw [if_pos hv] at hg
 obtain ⟨ug,rfl,hOg⟩:=hg
 have hAt:ArcsAt σg ug (arcsG qs cs bs hs d):=hOg.at
 obtain ⟨pg,kg,rfl⟩:=hOg.form
 have h:=vok hv
 have hEl:=ea_len qs cs bs hs d h
 have hAl:(arcsG qs cs bs hs d).length=(arcsE qs cs bs hs d).length:=by unfold arcsG; rw [List.length_map]
 have hM:=refMax_spec σg (.slice pg (arcsG qs cs bs hs d).length kg) (vsN qs d) (vtx d d.s d.r) (vtx d d.d d.e) (arcsG qs cs bs hs d) hAt (by omega)
 refine Ab ?_;refine A4 ?_; rintro _ _ ⟨b,rfl,rfl⟩;refine AY ?_; rintro _ _ ⟨rfl,rfl⟩;refine Aef ?_;refine Afc ?_;refine BV hM rfl rfl rdZ rfl rfl ?_;rintro _ σf ⟨fs,F,m,e,rfl,hF,hm⟩
 obtain ⟨he,_⟩:=max_cut h (show MaxN qs cs bs hs d F m e from hm)
 subst he
 obtain ⟨pf,kf,rfl,_⟩:=hF.val Eng.encI_len
 refine Ab ?_;refine AP ?_;refine Acy ?_;refine Abt ?_;refine Aao ?_;refine AY ?_; rintro _ _ ⟨rfl,rfl⟩;refine Aal ?_;exact AO (resSEE (b1:=b4) (T:=75) (v1:=[int (vsN qs d),.slice pg (arcsG qs cs bs hs d).length kg,int (vtx d d.s d.r),int (vtx d d.d d.e)]) rfl rfl rfl rfl rfl rfl (cells_own memZ)) rsubZ selZ ⟨pg,kg,pf,kf,F,m,σg,σf,hAt,hF,hm,rfl,rfl⟩
end Go.Proofs.YtjehnjhkcmobcaaGreat
namespace Go.Proofs.YtjehnjhkcmobcaaGreat
open Go.Eng Go.Flow
set_option maxRecDepth 100000
set_option maxHeartbeats 64000000
theorem ints_one (l:List Int):∀ u∈l.flatMap Eng.encI,u.oneCell'=true:=by
 intro u hu
 rw [List.mem_flatMap] at hu
 obtain ⟨a,_,hu⟩:=hu
 simp only [Eng.encI,List.mem_cons,List.not_mem_nil,or_false] at hu;subst hu; rfl
theorem cloneInt_spec (ρ:PH) (v:Value) (l:List Int) (hv:IntsAt ρ v l) (hl:l.length≤1000000) :
  Makes Tryz.prog (fv 72) [v] [ρ] (fun r σ=>OwnS 3 1 r l.length (l.flatMap Eng.encI) σ):=by
 have hv2:=hv
 obtain ⟨q,c,rfl,hr⟩:=hv.val Eng.encI_len
 refine spec_in (cap:=[]) Tryz.func72 rfl rfl Tryz.ntmps72 rfl envZ (fun N β=>?_)
 cases q with
 | none =>
  have hnil:l=[]:=by
   cases l with
   | nil=>rfl
   | cons a l =>
    obtain ⟨b,o,e,_⟩:=hr 0 a rfl
    simp at e
  subst hnil;refine BZ ?_;refine Aff ?_
  focus ((refine' CW _ rfl rfl rfl _; rotate_left; (apply GD; exact rfl; exact rfl; exact rfl)))
  refine Aba ?_;exact AO (res1 rfl rfl) rsubZ selZ ⟨emp,OwnS.nil _ _,rfl⟩
 | some ad =>
  refine Aff ?_
  focus ((refine' CW _ rfl rfl rfl _; rotate_left; (apply GE; exact rfl; exact rfl; exact rfl)))
  refine Aak ?_;refine Aa ?_;refine AZ ?_; rintro _ _ ⟨b,rfl,rfl⟩;refine AB ?_
  rcases Nat.eq_zero_or_pos l.length with h0|h0
  ·have hnil:l=[]:=List.eq_nil_of_length_eq_zero h0
   subst hnil
   focus ((refine' CW _ rfl rfl rfl _; rotate_left; (apply GF; exact rfl; exact rfl; exact rfl; exact rfl; omega)))
   refine Aaa ?_;exact AO (res1 rfl rfl) rsubZ selZ ⟨_,OwnS.empty,rfl⟩
  ·obtain ⟨b2,o2,c2,e,hcell⟩:=SlAt.some hv2 h0
   simp only [Value.slice.injEq,Option.some.injEq,true_and] at e
   obtain ⟨rfl,rfl⟩:=e
   refine BH (BI (by_:=8) (s:=1) (news:=l.flatMap Eng.encI) rfl rfl rfl rfl rfl rfl rfl (OwnS.empty (b:=b)) takeZ (cellsR (ρ:=ρ) hcell memZ) (flat_len Eng.encI_len l) (ints_one l) h0 (by simp only [maxLen]; omega) (by omega)) rfl rfl rfl ?_
   rintro r1 _ ⟨σ,hO,rfl⟩;refine Aaa ?_;refine AO (res1 rfl rfl) rsubZ selZ ⟨σ,?_,rfl⟩
   simpa using hO
theorem OwnS.num {e:TypeId} {b n cap:Nat} {l:List Int} {ρ:PH} (h:OwnS e 1 (.slice (some ⟨b,0,none⟩) n cap) l.length (l.flatMap Eng.encI) ρ) {i:Nat} (hi:i<l.length):rdc ρ b i=some (int (l.getD i 0)):=by
 have hS:SlE Eng.encI 1 ρ (.slice (some ⟨b,0,none⟩) n cap) l:=h.at
 obtain ⟨p,c,e1,hr⟩:=hS.val Eng.encI_len
 simp only [Value.slice.injEq] at e1
 obtain ⟨b',o',e2,h2⟩:=hr.int (List.getElem?_eq_getElem hi)
 rw [← e1.1] at e2;simp only [Option.some.injEq,Addr.mk.injEq,and_true] at e2
 obtain ⟨rfl,rfl⟩:=e2
 rw [Nat.zero_add] at h2;rw [h2]
 simp [List.getD_eq_getElem?_getD,hi]
theorem OwnS.some_of {e:TypeId} {s:Nat} {v:Value} {l:List Int} {ρ:PH} (h:OwnS e s v l.length (l.flatMap Eng.encI) ρ) (h0:0<l.length):∃ b cap,v=.slice (some ⟨b,0,none⟩) l.length cap:=by
 rcases h.block with ⟨_,h2,_⟩|⟨b,cap,cur,h2,_⟩
 ·rw [h2] at h0; simp at h0
 ·exact ⟨b,cap,h2⟩
abbrev roomP (b:Nat):Value:=.func (.func 74) #[] #[.pointer (some ⟨b,0,none⟩)]
theorem paths1_spec (ρ:PH) (b k:Nat) (T e:TypeId) (rv:Value) (rest:List Int) (hO:OwnS e 1 rv rest.length (rest.flatMap Eng.encI) ρ) (hk:k<rest.length) :
  Ans Tryz.prog (roomP b) [int k] [sng b (.cells #[rv] T (0,0)),ρ] (fun r=>r=int (rmP rest k)):=by
 obtain ⟨br,cap,rfl⟩:=OwnS.some_of hO (by omega)
 have c1:rdc (sng b (.cells #[.slice (some ⟨br,0,none⟩) rest.length cap] T (0,0))) b 0=some (.slice (some ⟨br,0,none⟩) rest.length cap):=by rw [rdc_sng]; rfl
 have c2:=OwnS.num hO hk
 refine spec_in (cap:=[.pointer (some ⟨b,0,none⟩)]) Tryz.func74 rfl rfl Tryz.ntmps74 rfl envZ (fun N β=>?_)
 refine Aai ?_;refine Aex ?_;refine Adf ?_;refine Aaa ?_;exact A3 ⟨rfl,rfl⟩
def encPV (x:Value × Int):List Value:=[x.1,int x.2]
theorem encPV_len (x:Value × Int):(encPV x).length=2:=rfl
def ArcsIn (σ:PH) (es:List (Value × Int)) (ps:List (List Lk × Int)):Prop:=
 es.length=ps.length∧∀ (i:Nat) (e:Value × Int) (p:List Lk × Int),es[i]?=some e→ps[i]?=some p→e.2=p.2∧IntsAt σ e.1 (ksOf p.1)
theorem ArcsIn.nil (σ:PH):ArcsIn σ [] []:=⟨rfl,by intro i e p h; simp at h⟩
theorem ArcsIn.sub {σ τ:PH} {es:List (Value × Int)} {ps:List (List Lk × Int)} (h:ArcsIn σ es ps) (hs:PH.sub σ τ):ArcsIn τ es ps:=⟨h.1,fun i e p h1 h2=>⟨(h.2 i e p h1 h2).1,hs.slE (h.2 i e p h1 h2).2⟩⟩
theorem ArcsIn.snoc {σ:PH} {es:List (Value × Int)} {ps:List (List Lk × Int)} {e:Value × Int} {p:List Lk × Int} (h:ArcsIn σ es ps) (h1:e.2=p.2) (h2:IntsAt σ e.1 (ksOf p.1)):ArcsIn σ (es ++ [e]) (ps ++ [p]):=by
 refine ⟨by simp [h.1],fun i e' p' k1 k2=>?_⟩
 by_cases hi:i<es.length
 ·rw [List.getElem?_append_left hi] at k1
  rw [List.getElem?_append_left (by rw [← h.1]; exact hi)] at k2
  exact h.2 i e' p' k1 k2
 ·rw [List.getElem?_append_right (by omega)] at k1
  rw [List.getElem?_append_right (by rw [← h.1]; omega)] at k2
  have hz:i-es.length=0:=by
   have:=(List.getElem?_eq_some_iff.1 k1).1
   simp at this; omega
  rw [hz] at k1;rw [← h.1,hz] at k2
  simp at k1 k2
  subst k1; subst k2;exact ⟨h1,h2⟩
def PathsAt (σ:PH) (u:Value) (ps:List (List Lk × Int)):Prop:=∃ es,SlE encPV 2 σ u es∧ArcsIn σ es ps
theorem flowPaths_spec (ρ σ:PH) (v u:Value) (n s t:Int) (l:List Arc) (fl:List Int) (hv:ArcsAt ρ v l) (hu:IntsAt σ u fl) (hl:l.length≤1000000) :
  Makes Tryz.prog (fv 31) [int n,v,u,int s,int t] [ρ,σ] (fun r τ=>∃ w ps e,r=.tuple #[w,int e]∧PathsAt τ w ps∧PathsOK n l fl s t ps e):=by
 have hnil:PathsAt emp (.slice none 0 0) []:=⟨[],⟨rfl,.inl ⟨rfl,none,0,rfl⟩⟩,ArcsIn.nil _⟩
 have hv2:=hv
 obtain ⟨q,c,rfl,hr⟩:=hv.val encA_len
 refine spec_in (cap:=[]) Tryz.func31 rfl rfl Tryz.ntmps31 rfl envZ (fun N β=>?_)
 refine Ad5 ?_;refine Aah ?_;refine Ad0 ?_;refine BC (flowValue_spec ρ σ _ u n s t l fl hv2 hu hl) rfl rfl rdZ rfl rfl ?_;rintro _ rfl
 by_cases h0:(valueSpec n l fl s t).2=0
 rotate_left
 ·refine AB ?_
  refine Ahj ?_;refine Aac ?_;refine Ag6 ?_;refine BZ ?_;exact AO (res2 rfl rfl rfl) rsubZ selZ ⟨emp,⟨_,[],_,rfl,hnil,.inl ⟨h0,rfl,rfl⟩⟩,rfl⟩
 obtain ⟨n',s',t',g,hF0,_⟩:=value_good h0
 obtain ⟨rfl,rfl,rfl⟩:=And.intro g.en (And.intro g.es g.et)
 have hn2:=g.n2
 have hl2:=g.l2
 have hpl:=pl_lt g.ok
 have hcap:∀ a∈l,0≤a.c∧a.c≤1099511627776:=fun a ha=>by have:=okArc_iff.1 (g.ok a ha); omega
 have hpk:∀ x∈plinks l,x.f<n'∧x.t<n'∧x.k≤40000:=fun x hx=>by have:=hpl x hx; have:=pl_k hx; omega
 have hGok:GOk n' (outsOf (plinks l)) (insOf (plinks l)):=GOk_of hn2 (by rw [plinks_len]; omega) hpk
 refine Adn ?_;refine Abh ?_;refine Aac ?_
 refine BV (cloneInt_spec σ u fl hu (by rw [← hF0.len]; omega)) rfl rfl rdZ rfl rfl ?_
 rintro rv ρr hO
 have hrv1:rv.oneCell'=true:=OwnS.one hO
 refine BH (FX rfl rfl) rfl rfl rfl ?_;rintro _ _ ⟨bb,rfl,rfl⟩;refine CI (E4 rfl rfl hrv1 rfl takeZ SetL.here) rfl rfl ?_;rintro _ _ ⟨rfl,rfl⟩;refine Aej ?_;refine CL ?_;refine BL (newGraph_spec n' 74 [.pointer (some ⟨bb,0,none⟩)] hn2) rfl rfl takesZ rdZ rfl rfl ?_;rintro _ _ ⟨gb,ob,ib,rfl,rfl⟩;simp only [List.cons_append,List.nil_append]
 have hG0:=GBl_new gb ob ib n' (roomP bb)
 refine FF (n'+n') ?_;simp only [List.cons_append,List.nil_append];refine Af2 ?_
 refine BA [0,1,3,4,14,15,41,42] (X:=Nat × List PH) (0,_) (fun x=>x.1≤l.length∧GBl gb ob ib n' (roomP bb) (plinks (l.take x.1)) x.2) (fun x=>[(43,int x.1)])
  (fun x=>sng bb (.cells #[rv] 22 (0,0))::ρr::x.2) (fun x=>l.length-x.1) pickZ ⟨by simp,hG0⟩ covZ ?_ ?_
 ·refine Sel.cons takeZ (Sel.cons takeZ (Sel.cons takeZ (Sel.cons takeZ (Sel.cons takeZ ?_))))
  rw [List.replicate_append_replicate];exact Sel.refl
 rintro ⟨k,Hg⟩ ⟨hk,hG⟩
 dsimp only at hk hG ⊢
 by_cases hlt:k<l.length
 ·have hx:=List.getElem?_eq_getElem hlt
  obtain ⟨b',o,rfl,hA,h0',h1',h2'⟩:=arcRow hr hx
  obtain ⟨g1,g2,g3,g4,g5,g6,g7⟩:=okArc_iff.1 (g.ok l[k] (List.getElem_mem hlt))
  obtain ⟨f,hf⟩:=Int.eq_ofNat_of_zero_le g1
  obtain ⟨t2,ht2⟩:=Int.eq_ofNat_of_zero_le g3
  have hlr:=plinks_len (l.take k)
  have hlk:(l.take k).length=k:=by simp; omega
  have hsn:=plinks_snoc (l.take k) l[k]
  rw [← take_snoc' hlt,hlk,hf,ht2] at hsn;simp only [Int.toNat_natCast] at hsn;rw [hf,ht2] at hA
  have a1:=add_bl hG k f t2 (by omega) (by omega) (by omega)
  refine Afb ?_;refine A4 ?_; rintro _ _ ⟨b,rfl,rfl⟩;refine AD ?_;refine AY ?_; rintro _ _ ⟨rfl,rfl⟩;refine AE ?_;refine Ade ?_;refine Abj ?_;refine BL a1 rfl rfl (Takes.skips [_,_,_] Takes.all) rdZ rfl rfl ?_;rintro _ H1 ⟨rfl,hG1⟩
  refine DD (H':=sng b (.cells #[int (f:Int),int (t2:Int),int l[k].c] 157 (0,0))::sng bb (.cells #[rv] 22 (0,0))::ρr::H1) (by simpa using List.perm_append_comm (l₁:=H1) (l₂:=[_,_,_])) ?_
  refine Ae9 ?_
  refine AT (k+1,H1) ⟨by dsimp only; omega,?_⟩ (by dsimp only; omega) covZ (Sel.cons takeZ (Sel.cons takeZ (Sel.skip Sel.refl)))
  dsimp only
  rw [hsn];exact hG1
 rw [List.take_of_length_le (by omega)] at hG
 refine DD (H':=Hg ++ [sng bb (.cells #[rv] 22 (0,0)),ρr]) (by simpa using List.perm_append_comm (l₂:=Hg) (l₁:=[_,_])) ?_
 refine EH (fun γ hγ=>?_)
 have hGA:=hG.at hγ
 refine AW (ρ:=γ) takeZ ?_;refine Afv ?_;refine Acd ?_;refine Abw ?_
 refine BA [0,1,3,4,14,15] (X:=(List Int × List (List Lk × Int)) × ((Value × List (Value × Int)) × ((PH × PH) × PH))) ((fl,[]),((.slice none 0 0,[]),((emp,emp),ρr)))
  (fun x=>Flw n' l s' t' x.1.1∧(∀ ps r,RunP n' l s' t' x.1.1 ps r→RunP n' l s' t' fl (x.1.2 ++ ps) r)∧OwnS 3 1 rv x.1.1.length (x.1.1.flatMap Eng.encI) x.2.2.2∧OwnS 163 2 x.2.1.1 x.2.1.2.length (x.2.1.2.flatMap encPV) x.2.2.1.1∧ArcsIn x.2.2.1.2 x.2.1.2 x.1.2∧x.1.2.length+npos x.1.1≤l.length)
  (fun x=>[(18,x.2.1.1)]) (fun x=>[sng bb (.cells #[rv] 22 (0,0)),x.2.2.2,x.2.2.1.1,x.2.2.1.2]) (fun x=>(fval s' l x.1.1+1099511627776*(2*(l.length:Int))).toNat)
  pickZ ⟨hF0,fun _ _ h=>h,hO,OwnS.nil _ _,ArcsIn.nil _,by have:=npos_len fl; have:=hF0.len; dsimp only [List.length_nil]; omega⟩ covZ selZ ?_
 rintro ⟨⟨rest,ps⟩,⟨⟨ov,es⟩,⟨⟨ρo,ρa⟩,ρ1⟩⟩⟩ ⟨hF,hrun,hO1,hOo,hAr,hcnt⟩
 dsimp only at hF hrun hO1 hOo hAr hcnt ⊢
 have hb0:=fval_bd s' l fl (inCap_small l _ hF0.len hF0.cap g.ok)
 have hb1:=fval_bd s' l rest (inCap_small l _ hF.len hF.cap g.ok)
 rw [← hF0.len] at hb0;rw [← hF.len] at hb1
 have hrm:∀ v x,v<n'→x∈insOf (plinks l) v→Ans Tryz.prog (roomP bb) [int x.k] [sng bb (.cells #[rv] 22 (0,0)),ρ1] (fun r=>r=int (rmP rest x.k)):=fun v x _ hx=>by
  have hm:x∈plinks l:=by unfold insOf at hx; exact (List.mem_filter.1 hx).1
  exact paths1_spec ρ1 bb x.k _ _ rv rest hO1 (by rw [← hF.len]; exact pl_k hm)
 refine AM ?_;refine Aev ?_;refine BV (path_spec γ gb n' s' t' (outsOf (plinks l)) (insOf (plinks l)) (roomP bb) (rmP rest) _ hGA hGok g.sn g.tn hrm) rfl rfl rdZ rfl rfl ?_;rintro _ ρp ⟨D,pv,hD,rfl,hP⟩;rw [opens_opn hpl] at hD;rw [nxO_nxt] at hP
 by_cases hd0:0≤D.getD s' 0
 rotate_left
 ·rw [decide_eq_false hd0]
  refine Adi ?_;refine BN ?_;refine Aeg ?_
  refine DC (ρ:=ρo) takeZ (σ:=ρa) takeZ (fun δ k1 k2=>?_)
  refine AO (res2 rfl rfl rfl) rsubZ selZ ⟨δ,⟨ov,ps,0,rfl,⟨es,k1.slE hOo.at,hAr.sub k2⟩,.inr ⟨h0,rfl,rest,?_⟩⟩,rfl⟩
  have:=hrun [] rest (.done hD (by omega))
  simpa using this
 rw [decide_eq_true hd0]
 obtain ⟨hN1,hN2,hN3⟩:=pNext_ok g.ok g.sn g.ne hF hD hd0
 obtain ⟨k0,hk0⟩:=Int.eq_ofNat_of_zero_le hd0
 have hDn:=hD.lt (fun x hx=>hpl x hx.1) g.tn g.sn
 have hPl:(pP l rest D s').length=k0:=path_len hpl hD k0 s' g.sn hk0
 have hPm:∀ x∈pP l rest D s',x∈plinks l:=fun x hx=>((path_chn hpl hD k0 s' g.sn hk0).all x hx).1.1
 have hroom:pRoom l rest D s'≤1099511627776:=(leastR_le _ _ _).1
 have hIn:IntsAt ρp pv (ksOf (pP l rest D s')):=ownInts (e:=3) (by rw [show (ksOf (pP l rest D s')).length=(pP l rest D s').length from by simp [ksOf]]; exact hP)
 have hlst:=least_spec γ ρp gb (roomP bb) pv (rmP rest) _ (pP l rest D s') hGA.r hIn (by omega) (fun x hx=>hrm x.t x (hpl x (hPm x hx)).2 (by unfold insOf; rw [List.mem_filter]; exact ⟨hPm x hx,by simp⟩))
 have hpv1:pv.oneCell'=true:=SlE.one hIn
 have hroom2:leastR (rmP rest) (pP l rest D s')≤1099511627776:=hroom
 have hroom3:0<leastR (rmP rest) (pP l rest D s'):=hN2
 obtain ⟨q2,c2,rfl,hr2⟩:=hIn.val Eng.encI_len
 have hkl:(ksOf (pP l rest D s')).length=(pP l rest D s').length:=by simp [ksOf]
 have hmu:=fval_bd s' l (pNext l rest D s') (inCap_small l _ hN1.len hN1.cap g.ok)
 rw [← hN1.len] at hmu;refine Adi ?_;refine Acw ?_;refine Aay ?_;refine BC hlst rfl rfl rdZ rfl rfl ?_;rintro _ rfl;refine Af2 ?_
 refine BA [0,1,3,4,14,15,18,19,21,69,70] (X:=Nat × PH) (0,ρ1) (fun x=>x.1≤(pP l rest D s').length∧OwnS 3 1 rv (subAll (pRoom l rest D s') rest ((pP l rest D s').take x.1)).length ((subAll (pRoom l rest D s') rest ((pP l rest D s').take x.1)).flatMap Eng.encI) x.2) (fun x=>[(71,int x.1)])
  (fun x=>[sng bb (.cells #[rv] 22 (0,0)),x.2,ρo,ρa,ρp])
  (fun x=>(pP l rest D s').length-x.1) pickZ ⟨by dsimp only; omega,by simpa [subAll] using hO1⟩ covZ selZ ?_
 rintro ⟨i,ρ2⟩ ⟨hi,hO2⟩
 dsimp only at hi hO2 ⊢
 have hal:(subAll (pRoom l rest D s') rest ((pP l rest D s').take i)).length=l.length:=by rw [subAll_len]; exact hF.len.symm
 by_cases hlt2:i<(pP l rest D s').length
 ·have hx:(ksOf (pP l rest D s'))[i]?=some ((pP l rest D s')[i].k:Int):=by simp [ksOf,hlt2]
  obtain ⟨b,o,rfl,g0⟩:=hr2.int hx
  have hxm:=hPm _ (List.getElem_mem hlt2)
  have hxk:=pl_k hxm
  obtain ⟨br,cap,rfl⟩:=OwnS.some_of hO2 (by omega)
  have hnum:=OwnS.num hO2 (i:=(pP l rest D s')[i].k) (by omega)
  have hic:=inCap_get l _ (pTake_cap g.ok g.sn hF hD hd0 i) (pP l rest D s')[i].k (l[(pP l rest D s')[i].k]'(by omega)) ((subAll (pRoom l rest D s') rest ((pP l rest D s').take i)).getD (pP l rest D s')[i].k 0) (List.getElem?_eq_getElem (by omega)) (by rw [List.getD_eq_getElem?_getD,List.getElem?_eq_getElem (by omega)]; rfl)
  have hcc:=hcap _ (List.getElem_mem (show (pP l rest D s')[i].k<l.length by omega))
  have hsn:=subAll_snoc (pRoom l rest D s') rest ((pP l rest D s').take i) (pP l rest D s')[i]
  rw [← take_snoc' hlt2] at hsn;unfold subP at hsn;refine Aed ?_;refine Aaa ?_;refine AA ?_;refine Abq ?_;refine Afn ?_;refine CP ?_;refine BR ?_
  refine CI (EM Eng.encI_len (a:=(subAll (pRoom l rest D s') rest ((pP l rest D s').take i)).getD (pP l rest D s')[i].k 0) (pP l rest D s')[i].k 0 ((subAll (pRoom l rest D s') rest ((pP l rest D s').take i)).getD (pP l rest D s')[i].k 0-pRoom l rest D s') hO2 rfl (by omega) (by omega) (by rw [List.getD_eq_getElem?_getD,List.getElem?_eq_getElem (by omega)]; rfl) rfl rfl rfl rfl takeZ) rfl rfl ?_
  rintro _ _ ⟨rfl,ρ3,hO3,rfl⟩;refine Ae9 ?_
  refine AT (i+1,ρ3) ⟨by dsimp only; omega,?_⟩ (by dsimp only; omega) covZ selZ
  dsimp only
  rw [hsn];rw [List.length_set] at hO3 ⊢;exact hO3
 ·rw [List.take_of_length_le (by omega)] at hO2
  have hesl:=hAr.1
  have hnp:=pNext_pos g.ok g.sn g.ne hF hD hd0
  refine Acd ?_;refine Ac8 ?_;refine BY ?_;refine AZ ?_; rintro _ _ ⟨b,rfl,rfl⟩
  refine BH (BI (by_:=32) (s:=2) (news:=[.slice q2 (ksOf (pP l rest D s')).length c2,int (pRoom l rest D s')]) rfl rfl rfl rfl rfl rfl rfl hOo takeZ (cells_own memZ) rfl oneZ (by omega) (by simp only [maxLen]; omega) (by omega)) rfl rfl rfl ?_
  rintro q9 _ ⟨ρ4,hQ4,rfl⟩;refine Aaa ?_;refine A2 ?_
  refine DC (ρ:=ρa) takeZ (σ:=ρp) takeZ (fun δ k1 k2=>?_)
  refine AT ((pNext l rest D s',ps ++ [(pP l rest D s',pRoom l rest D s')]),((q9,es ++ [(.slice q2 (ksOf (pP l rest D s')).length c2,pRoom l rest D s')]),((ρ4,δ),ρ2))) ⟨hN1,?_,hO2,?_,(hAr.sub k1).snoc rfl (k2.slE hIn),?_⟩ (by dsimp only; omega) covZ selZ
  ·intro ps2 r hR
   have:=hrun _ r (.step hD hd0 hR)
   dsimp only
   rw [List.append_assoc];exact this
  ·dsimp only
   rw [List.length_append,List.flatMap_append];exact hQ4
  ·dsimp only
   rw [List.length_append,List.length_singleton];omega
end Go.Proofs.YtjehnjhkcmobcaaGreat
namespace Go.Flow
def leftL (l:List Arc) (rest:List Int):List (Lk × Int):=(plinks l).map (fun x=>(x,rmP rest x.k))
theorem leftL_len (l:List Arc) (rest:List Int):(leftL l rest).length=l.length:=by simp [leftL,plinks_len]
theorem leftL_get {l:List Arc} {rest:List Int} {k:Nat} {x:Lk} (hx:(plinks l)[k]?=some x):(leftL l rest)[k]?=some (x,rmP rest k):=by
  unfold leftL;rw [List.getElem?_map,hx]
  simp [plinks_at l k x hx]
theorem leftL_set {l:List Arc} {rest:List Int} {k:Nat} {x:Lk} (y:Int) (hx:(plinks l)[k]?=some x) (hl:l.length=rest.length):(leftL l rest).set k (x,y)=leftL l (rest.set k y):=by
  have hkl:k<l.length:=by
    have:=(List.getElem?_eq_some_iff.1 hx).1
    rwa [plinks_len] at this
  apply List.ext_getElem?
  intro j
  rw [List.getElem?_set]
  by_cases e:k=j
  · subst e
    rw [if_pos rfl,leftL_len,if_pos hkl,leftL_get hx];unfold rmP
    rw [getD_set (by omega),if_pos rfl]
  · rw [if_neg e]
    by_cases hj:j<l.length
    · obtain ⟨z,hz⟩:∃ z,(plinks l)[j]?=some z:=⟨_,List.getElem?_eq_getElem (by rw [plinks_len]; exact hj)⟩
      rw [leftL_get hz,leftL_get hz];unfold rmP;rw [getD_set' e]
    · rw [List.getElem?_eq_none (by rw [leftL_len]; omega),List.getElem?_eq_none (by rw [leftL_len]; omega)]
theorem leftL_snoc {l:List Arc} {fl:List Int} {i:Nat} (h:i<l.length) (h2:i<fl.length):leftL (l.take (i+1)) fl=leftL (l.take i) fl ++ [((⟨i,l[i].f.toNat,l[i].t.toNat⟩:Lk),fl[i])]:=by
  unfold leftL;rw [take_snoc' h,plinks_snoc,List.map_append]
  have hti:(l.take i).length=i:=by rw [List.length_take]; omega
  simp only [List.map_cons,List.map_nil,hti]
  congr 3
  unfold rmP
  simp [List.getD_eq_getElem?_getD,h2]
theorem rmP_le {n:Nat} {l:List Arc} {fl:List Int} (hok:∀ a∈l,okArc n a=true) (hl:l.length=fl.length) (hc:inCap l fl=true) {x:Lk} (hx:x∈plinks l):rmP fl x.k≤1099511627776:=by
  obtain ⟨j,a,ha,rfl⟩:=plinks_iff.1 hx
  have hjl:j<l.length:=(List.getElem?_eq_some_iff.1 ha).1
  have hfj:fl[j]?=some (fl.getD j 0):=by simp [List.getD_eq_getElem?_getD,show j<fl.length by omega]
  have hin:=inCap_get l fl hc j a _ ha hfj
  have:=okArc_iff.1 (hok a (List.mem_of_getElem? ha))
  unfold rmP
  dsimp only
  omega
end Go.Flow
namespace Go.Proofs.YtjehnjhkcmobcaaGreat
open Go.Eng Go.Flow
set_option maxRecDepth 100000
set_option maxHeartbeats 64000000
def encLkX (x:Lk × Int):List Value:=[int x.1.f,int x.1.t,int x.2]
theorem encLkX_len (x:Lk × Int):(encLkX x).length=3:=rfl
theorem ownRow {α:Type} {enc:α→List Value} {s:Nat} (he:∀ x,(enc x).length=s) {e:TypeId} {b n cap:Nat} {l:List α} {ρ:PH} (h:OwnS e s (.slice (some ⟨b,0,none⟩) n cap) l.length (l.flatMap enc) ρ) {i:Nat} {x:α} (hx:l[i]?=some x):RdN ρ b (0+i*s) (enc x):=by
 have hS:SlE enc s ρ (.slice (some ⟨b,0,none⟩) n cap) l:=h.at
 obtain ⟨p,c,e1,hr⟩:=hS.val he
 simp only [Value.slice.injEq] at e1
 obtain ⟨b',o',e2,h2⟩:=hr i x hx
 rw [← e1.1] at e2;simp only [Option.some.injEq,Addr.mk.injEq,and_true] at e2
 obtain ⟨rfl,rfl⟩:=e2
 exact h2
theorem encX_flat (l:List Arc) (rest:List Int):(leftL l rest).flatMap encLkX=(plinks l).flatMap (encR (rmP rest)):=by
 unfold leftL;rw [List.flatMap_map]
 rfl
theorem leftAt {e:TypeId} {v:Value} {l:List Arc} {rest:List Int} {ρ:PH} (h:OwnS e 3 v (leftL l rest).length ((leftL l rest).flatMap encLkX) ρ):SlE (encR (rmP rest)) 3 ρ v (plinks l):=by
 have h9:=h.at
 rw [encX_flat,leftL_len,← plinks_len] at h9;exact h9
theorem refPaths_spec (ρ σ:PH) (v u:Value) (n s t:Int) (l:List Arc) (fl:List Int) (hv:ArcsAt ρ v l) (hu:IntsAt σ u fl) (hl:l.length≤1000000) :
  Makes Tryz.prog (fv 108) [int n,v,u,int s,int t] [ρ,σ] (fun r τ=>∃ w ps e,r=.tuple #[w,int e]∧PathsAt τ w ps∧PathsOK n l fl s t ps e):=by
 have hnil:PathsAt emp (.slice none 0 0) []:=⟨[],⟨rfl,.inl ⟨rfl,none,0,rfl⟩⟩,ArcsIn.nil _⟩
 have hv2:=hv
 have hu2:=hu
 obtain ⟨q,c,rfl,hr⟩:=hv.val encA_len
 obtain ⟨q1,c1,rfl,hr1⟩:=hu.val Eng.encI_len
 refine spec_in (cap:=[]) Tryz.func108 rfl rfl Tryz.ntmps108 rfl envZ (fun N β=>?_)
 refine Ad5 ?_;refine Aah ?_;refine Ad0 ?_;refine BC (refValue_spec ρ σ _ _ n s t l fl hv2 hu2 hl) rfl rfl rdZ rfl rfl ?_;rintro _ rfl
 by_cases h0:(valueSpec n l fl s t).2=0
 rotate_left
 ·refine AB ?_
  refine Ahj ?_;refine Aac ?_;refine Ag6 ?_;refine BZ ?_;exact AO (res2 rfl rfl rfl) rsubZ selZ ⟨emp,⟨_,[],_,rfl,hnil,.inl ⟨h0,rfl,rfl⟩⟩,rfl⟩
 obtain ⟨n',s',t',g,hF0,_⟩:=value_good h0
 obtain ⟨rfl,rfl,rfl⟩:=And.intro g.en (And.intro g.es g.et)
 have hn2:=g.n2
 have hl2:=g.l2
 have hpl:=pl_lt g.ok
 have hlen0:=hF0.len
 have hcap:∀ a∈l,0≤a.c∧a.c≤1099511627776:=fun a ha=>by have:=okArc_iff.1 (g.ok a ha); omega
 refine BZ ?_;refine Adn ?_;refine Abh ?_;refine Af5 ?_
 refine BA [0,1,2,3,4] (X:=Nat × (Value × PH)) (0,(.slice none 0 0,emp)) (fun x=>x.1≤l.length∧OwnS 253 3 x.2.1 (leftL (l.take x.1) fl).length ((leftL (l.take x.1) fl).flatMap encLkX) x.2.2) (fun x=>[(14,x.2.1),(15,int x.1)]) (fun x=>[x.2.2]) (fun x=>l.length-x.1)
  pickZ ⟨by dsimp only; omega,OwnS.nil _ _⟩ covZ selZ ?_
 rintro ⟨k,⟨lv,ρl⟩⟩ ⟨hk,hOl⟩
 dsimp only at hk hOl ⊢
 by_cases hlt:k<l.length
 ·have hx:=List.getElem?_eq_getElem hlt
  obtain ⟨b',o,rfl,hA,h0',h1',h2'⟩:=arcRow hr hx
  have hlt1:k<fl.length:=by omega
  obtain ⟨b2,o2,rfl,g3'⟩:=hr1.int (List.getElem?_eq_getElem hlt1)
  obtain ⟨g1,g2,g3,g4,g5,g6,g7⟩:=okArc_iff.1 (g.ok l[k] (List.getElem_mem hlt))
  obtain ⟨f,hf⟩:=Int.eq_ofNat_of_zero_le g1
  obtain ⟨t2,ht2⟩:=Int.eq_ofNat_of_zero_le g3
  have hsn:=leftL_snoc (fl:=fl) hlt hlt1
  have hll:=leftL_len (l.take k) fl
  have hlk:(l.take k).length=k:=by simp; omega
  rw [hf,ht2] at hsn;simp only [Int.toNat_natCast] at hsn;rw [hf] at h0';rw [ht2] at h1';refine Abo ?_
  refine A6 (.q 0 (.q 1 (.q 2 (.q 3 (.q 4 (.q 5 (.q 6 (.q 7 (.q 8 (.q 9 (.q 10 (.q 11 (.q 12 (.q 13 (.q 14 (.q 15 (.l 16 .e (.l 17 .b (.l 18 .b .nil))))))))))))))))))) [] rfl (by kernel_rfl) selZ ?_
  refine Agj ?_;refine Ado ?_;refine Adj ?_;refine CV ?_;refine BF ?_; rintro _ _ ⟨b,rfl,rfl⟩;refine CF ?_;refine' a_b rfl _ rfl rfl rfl _ _
  rotate_left
  ·exact BI (by_:=24) (s:=3) (news:=[int (f:Int),int (t2:Int),int fl[k]]) rfl rfl rfl rfl rfl rfl rfl hOl takeZ (cells_own memZ) rfl oneZ (by omega) (by simp only [maxLen]; omega) (by omega)
  ·rintro _ _ ⟨_,_,rfl⟩ w hw; exact hw.sel selZ
  rintro q9 _ ⟨ρ3,hQ3,rfl⟩;refine Agy ?_;refine Aa2 ?_
  refine AT (k+1,(q9,ρ3)) ⟨by dsimp only; omega,?_⟩ (by dsimp only; omega) covZ selZ
  dsimp only
  rw [hsn,List.length_append,List.flatMap_append];exact hQ3
 rw [List.take_of_length_le (by omega)] at hOl
 refine Afv ?_;refine Aha ?_;refine Aap ?_
 refine BA [0,1,3,4,14] (X:=(List Int × List (List Lk × Int)) × ((Value × List (Value × Int)) × ((PH × PH) × PH))) ((fl,[]),((.slice none 0 0,[]),((emp,emp),ρl)))
  (fun x=>Flw n' l s' t' x.1.1∧(∀ ps r,RunP n' l s' t' x.1.1 ps r→RunP n' l s' t' fl (x.1.2 ++ ps) r)∧OwnS 253 3 lv (leftL l x.1.1).length ((leftL l x.1.1).flatMap encLkX) x.2.2.2∧OwnS 163 2 x.2.1.1 x.2.1.2.length (x.2.1.2.flatMap encPV) x.2.2.1.1∧ArcsIn x.2.2.1.2 x.2.1.2 x.1.2∧x.1.2.length+npos x.1.1≤l.length)
  (fun x=>[(16,x.2.1.1)]) (fun x=>[x.2.2.2,x.2.2.1.1,x.2.2.1.2]) (fun x=>(fval s' l x.1.1+1099511627776*(2*(l.length:Int))).toNat)
  pickZ ⟨hF0,fun _ _ h=>h,hOl,OwnS.nil _ _,ArcsIn.nil _,by have:=npos_len fl; dsimp only [List.length_nil]; omega⟩ covZ selZ ?_
 rintro ⟨⟨rest,ps⟩,⟨⟨ov,es⟩,⟨⟨ρo,ρa⟩,ρ1⟩⟩⟩ ⟨hF,hrun,hO1,hOo,hAr,hcnt⟩
 dsimp only at hF hrun hO1 hOo hAr hcnt ⊢
 have hb1:=fval_bd s' l rest (inCap_small l _ hF.len hF.cap g.ok)
 rw [← hF.len] at hb1;refine AC ?_;refine AL rfl ?_;refine Ae8 ?_;refine Aac ?_;refine Abp ?_
 refine BV (refPath_spec ρ1 lv n' s' t' (plinks l) (rmP rest) (leftAt hO1) hpl (plinks_at l) hn2 (by rw [plinks_len]; omega) g.sn g.tn) rfl rfl rdZ rfl rfl ?_
 rintro _ ρp ⟨D,pv,hD,rfl,hP⟩
 by_cases hd0:0≤D.getD s' 0
 rotate_left
 ·have hpn:pathD (nxt (plinks l) (rmP rest) D) D s'=[]:=pathD_end (by omega)
  obtain ⟨q2,c2,rfl⟩:∃ p c,pv=.slice p 0 c:=by
   have h9:=SlAt.cap hP.at
   rw [hpn] at h9;exact h9
  refine Ab0 ?_;refine Abg ?_;refine CQ ?_;refine Aeg ?_
  refine DC (ρ:=ρo) takeZ (σ:=ρa) takeZ (fun δ k1 k2=>?_)
  refine AO (res2 rfl rfl rfl) rsubZ selZ ⟨δ,⟨ov,ps,0,rfl,⟨es,k1.slE hOo.at,hAr.sub k2⟩,.inr ⟨h0,rfl,rest,?_⟩⟩,rfl⟩
  have:=hrun [] rest (.done hD (by omega))
  simpa using this
 obtain ⟨hN1,hN2,hN3⟩:=pNext_ok g.ok g.sn g.ne hF hD hd0
 obtain ⟨k0,hk0⟩:=Int.eq_ofNat_of_zero_le hd0
 have hDn:=hD.lt (fun x hx=>hpl x hx.1) g.tn g.sn
 have hPl:(pP l rest D s').length=k0:=path_len hpl hD k0 s' g.sn hk0
 have hk1:k0≠0:=fun h=>by
  subst h
  exact g.ne (hD.zero s' g.sn (by omega))
 have hPm:∀ x∈pP l rest D s',x∈plinks l:=fun x hx=>((path_chn hpl hD k0 s' g.sn hk0).all x hx).1.1
 have hroom2:leastR (rmP rest) (pP l rest D s')≤1099511627776:=(leastR_le _ _ _).1
 have hroom3:0<leastR (rmP rest) (pP l rest D s'):=hN2
 have hrl2:rmin (rmP rest) (pathD (nxt (plinks l) (rmP rest) D) D s')=leastR (rmP rest) (pP l rest D s'):=rmin_least _ _ (fun h=>by rw [show pP l rest D s'=[] from h] at hPl; simp at hPl; omega) (fun x hx=>rmP_le g.ok hF.len hF.cap (hPm x hx))
 rw [hrl2]
 have hIn:IntsAt ρp pv (ksOf (pP l rest D s')):=ownInts (e:=3) (by rw [show (ksOf (pP l rest D s')).length=(pP l rest D s').length from by simp [ksOf]]; exact hP)
 have hpv1:pv.oneCell'=true:=SlE.one hIn
 obtain ⟨q2,c2,rfl,hr2⟩:=hIn.val Eng.encI_len
 have hkl:(ksOf (pP l rest D s')).length=(pP l rest D s').length:=by simp [ksOf]
 have hmu:=fval_bd s' l (pNext l rest D s') (inCap_small l _ hN1.len hN1.cap g.ok)
 rw [← hN1.len] at hmu;refine Ab0 ?_;refine Abg ?_;refine Adu ?_;refine Acv ?_
 refine BA [0,1,3,4,14,16,17,18] (X:=Nat × PH) (0,ρ1) (fun x=>x.1≤(pP l rest D s').length∧OwnS 253 3 lv (leftL l (subAll (pRoom l rest D s') rest ((pP l rest D s').take x.1))).length ((leftL l (subAll (pRoom l rest D s') rest ((pP l rest D s').take x.1))).flatMap encLkX) x.2) (fun x=>[(19,int x.1)])
  (fun x=>[x.2,ρo,ρa,ρp]) (fun x=>(pP l rest D s').length-x.1) pickZ ⟨by dsimp only; omega,by simpa [subAll] using hO1⟩ covZ selZ ?_
 rintro ⟨i,ρ2⟩ ⟨hi,hO2⟩
 dsimp only at hi hO2 ⊢
 have hal:(subAll (pRoom l rest D s') rest ((pP l rest D s').take i)).length=l.length:=by rw [subAll_len]; exact hF.len.symm
 by_cases hlt2:i<(pP l rest D s').length
 ·have hx:(ksOf (pP l rest D s'))[i]?=some ((pP l rest D s')[i].k:Int):=by simp [ksOf,hlt2]
  obtain ⟨b,o,rfl,g0⟩:=hr2.int hx
  have hxm:=hPm _ (List.getElem_mem hlt2)
  have hxk:=pl_k hxm
  have hxa:(plinks l)[(pP l rest D s')[i].k]?=some (pP l rest D s')[i]:=by
   obtain ⟨j,a,ha,e⟩:=plinks_iff.1 hxm
   rw [plinks_get,e]
   dsimp only
   rw [ha]; rfl
  have hle:=leftL_get (rest:=subAll (pRoom l rest D s') rest ((pP l rest D s').take i)) hxa
  have hll:=leftL_len l (subAll (pRoom l rest D s') rest ((pP l rest D s').take i))
  rcases hO2.block with ⟨_,h2,_⟩|⟨br,cap,cur,rfl,_⟩
  ·rw [h2] at hll; simp at hll; omega
  have r1:=ownRow encLkX_len hO2 hle
  have r2:rdc ρ2 br (0+(pP l rest D s')[i].k*3+2)=some (int (rmP (subAll (pRoom l rest D s') rest ((pP l rest D s').take i)) (pP l rest D s')[i].k)):=r1.get (j:=2) rfl
  have hic:=inCap_get l _ (pTake_cap g.ok g.sn hF hD hd0 i) (pP l rest D s')[i].k (l[(pP l rest D s')[i].k]'(by omega)) ((subAll (pRoom l rest D s') rest ((pP l rest D s').take i)).getD (pP l rest D s')[i].k 0) (List.getElem?_eq_getElem (by omega)) (by rw [List.getD_eq_getElem?_getD,List.getElem?_eq_getElem (by omega)]; rfl)
  have hic2:0≤rmP (subAll (pRoom l rest D s') rest ((pP l rest D s').take i)) (pP l rest D s')[i].k∧rmP (subAll (pRoom l rest D s') rest ((pP l rest D s').take i)) (pP l rest D s')[i].k≤l[(pP l rest D s')[i].k].c:=hic
  have hcc:=hcap _ (List.getElem_mem (show (pP l rest D s')[i].k<l.length by omega))
  have hsn:=subAll_snoc (pRoom l rest D s') rest ((pP l rest D s').take i) (pP l rest D s')[i]
  rw [← take_snoc' hlt2] at hsn;unfold subP at hsn
  have hset:=leftL_set (rest:=subAll (pRoom l rest D s') rest ((pP l rest D s').take i)) (rmP (subAll (pRoom l rest D s') rest ((pP l rest D s').take i)) (pP l rest D s')[i].k-leastR (rmP rest) (pP l rest D s')) hxa hal.symm
  refine Abo ?_;refine Ac8 ?_;refine Acb ?_;refine Ae5 ?_;refine CP ?_;refine Ab2 ?_
  refine CI (EM encLkX_len (pP l rest D s')[i].k 2 ((pP l rest D s')[i],rmP (subAll (pRoom l rest D s') rest ((pP l rest D s').take i)) (pP l rest D s')[i].k-leastR (rmP rest) (pP l rest D s')) hO2 rfl (by rw [Nat.zero_add]; rfl) (by omega) hle rfl rfl rfl rfl takeZ) rfl rfl ?_
  rintro _ _ ⟨rfl,ρ3,hO3,rfl⟩;refine Ag5 ?_
  refine AT (i+1,ρ3) ⟨by dsimp only; omega,?_⟩ (by dsimp only; omega) covZ selZ
  dsimp only
  rw [hsn];rw [hset,leftL_len] at hO3;rw [leftL_len,leftL_len];exact hO3
 ·rw [List.take_of_length_le (by omega)] at hO2
  have hesl:=hAr.1
  have hnp:=pNext_pos g.ok g.sn g.ne hF hD hd0
  refine Aci ?_;refine Ac8 ?_;refine BY ?_;refine AZ ?_; rintro _ _ ⟨b,rfl,rfl⟩
  refine BH (BI (by_:=32) (s:=2) (news:=[.slice q2 (ksOf (pP l rest D s')).length c2,int (leastR (rmP rest) (pP l rest D s'))]) rfl rfl rfl rfl rfl rfl rfl hOo takeZ (cells_own memZ) rfl oneZ (by omega) (by simp only [maxLen]; omega) (by omega)) rfl rfl rfl ?_
  rintro q9 _ ⟨ρ4,hQ4,rfl⟩;refine Aaa ?_;refine A2 ?_
  refine DC (ρ:=ρa) takeZ (σ:=ρp) takeZ (fun δ k1 k2=>?_)
  refine AT ((pNext l rest D s',ps ++ [(pP l rest D s',pRoom l rest D s')]),((q9,es ++ [(.slice q2 (ksOf (pP l rest D s')).length c2,pRoom l rest D s')]),((ρ4,δ),ρ2))) ⟨hN1,?_,hO2,?_,(hAr.sub k1).snoc rfl (k2.slE hIn),?_⟩ (by dsimp only; omega) covZ selZ
  ·intro ps2 r hR
   have:=hrun _ r (.step hD hd0 hR)
   dsimp only
   rw [List.append_assoc];exact this
  ·dsimp only
   rw [List.length_append,List.flatMap_append];exact hQ4
  ·dsimp only
   rw [List.length_append,List.length_singleton];omega
end Go.Proofs.YtjehnjhkcmobcaaGreat
namespace Go.Eng
variable {C : Cx} {D : List Deferred} {R H T : List PH} {L : Env} {K : List It}
def IterW (P : Program) (gv : Value) (R1 HI : List PH) (xs : List (List Value)) : Prop :=
  ∀ (y : Value) (S : Type) (Own : S → List PH) (Inv : Nat → S → Prop) (Stop : S → Prop) (Ry : List PH),
    (∀ i σ vs, xs[i]? = some vs → Inv i σ → Spec P y vs Ry (Own σ) (fun v H' => ∃ σ', H' = Own σ' ∧ ((v = .bool true ∧ Inv (i + 1) σ') ∨ (v = .bool false ∧ Stop σ')))) →
    (∃ l, y = yv l) → ∀ σ, Inv 0 σ → Spec P gv [y] (R1 ++ Ry) (Own σ ++ HI) (fun _ H' => ∃ σ', H' = Own σ' ∧ (Inv xs.length σ' ∨ Stop σ'))
theorem GL {P : Program} {Q : Exit → Act → World → Prop} {N : Bs} {M : Nat} {g : Operand} {gf : FuncId} {cap : List Value} {ps : List Nat} {assign body : Code} {X : Type} {R1 HI Hr : List PH} {xs : List (List Value)} {fn : Func} {gc : Code}
    (hg : evalE L g = some (.func (.func gf) #[] cap.toArray)) (hgf : P.funcs[gf]? = some fn) (hgb : fn.body = some gc) (hname : (fn.name == "runtime.NumGoroutine") = false)
    (hit : IterW P (.func (.func gf) #[] cap.toArray) R1 HI xs) (hR1 : ∀ ρ ∈ R1, ρ ∈ R)
    (I : Nat → X → Prop) (Hx : X → List PH) (J : Code → X → Prop) (x0 : X) (hx0 : Hx x0 = T) (hT : Takes H (T ++ HI) Hr) (h0 : I 0 x0)
    (hround : ∀ l (r : Loop) i x vs, xs[i]? = some vs → I i x → r.params = ps.toArray → r.assign = assign → r.body = body → r.state = .ready → r.pending = none → Frm M L ⟨r.tmps, []⟩ →
      Spec P (yv l) vs R (sng l (.loop r) :: Hx x) (fun v H' => ∃ x', (v = .bool true ∧ I (i + 1) x' ∧ H' = sng l (.loop r) :: Hx x') ∨ (v = .bool false ∧ ∃ c, J c x' ∧ H' = sng l (.loop { r with state := .done, pending := some c }) :: Hx x')))
    (hdone : ∀ b x, I xs.length x → JK ⟨none, P, Q, N, M⟩ (mk b :: D) R (sng b defO :: (Hx x ++ Hr)) L K)
    (hjump : ∀ b c x, J c x → JK ⟨none, P, Q, N, M⟩ (mk b :: D) R (sng b defO :: (Hx x ++ Hr)) L (.code c :: K)) :
    JK ⟨none, P, Q, N, M⟩ D R H L (.code (.rangeFunc g ps.toArray assign body) :: K) := by
  subst hx0
  refine ⟨fun a w hf hd hs => wpIn_rangeFunc (fun fnn _ => ?_)⟩
  let r : Loop := { state := .ready, pending := none, fn := fnn, tmps := a.tmps, params := ps.toArray, assign, body, defers := w.heap.size }
  let w1 : World := (w.alloc defO).alloc (.loop r)
  have hs2 := hT.sat hs
  have hs3 := (hs2.alloc defO).alloc (.loop r)
  have hl : (w.alloc defO).heap.size = w.heap.size + 1 := by simp
  rw [hl] at hs3
  refine ⟨w.heap.size + 1, [mk w.heap.size], w1, ⟨.fn (.func gf) cap.toArray, #[yv (w.heap.size + 1)]⟩, w1, gf, ([yv (w.heap.size + 1)] ++ cap).toArray, w1, ?_, ?_, fun _ _ => trivial, ?_, fun h => by simp [Fence.wide] at h, ?_⟩
  · simp [Instr.enterLoop, w1, r]
  · have hgv' : a.eval g = .func (.func gf) #[] cap.toArray := hf.on g _ hg
    have hc : a.eval (.const (yv (w.heap.size + 1))) = yv (w.heap.size + 1) := rfl
    simp [resolve, Deferred.ofValue, hgv', hc]
  · have hname' : ¬ fn.name = "runtime.NumGoroutine" := by simpa using hname
    simp [invoke, callFunc, program, Sem.run, bind, Sem.bind, pure, hgf, hgb, hname']
  · let Own : X × Option Code → List PH := fun σ => match σ.2 with
      | none => sng (w.heap.size + 1) (.loop r) :: Hx σ.1
      | some c => sng (w.heap.size + 1) (.loop { r with state := .done, pending := some c }) :: Hx σ.1
    have hspec := hit (yv (w.heap.size + 1)) (X × Option Code) Own (fun i σ => σ.2 = none ∧ I i σ.1) (fun σ => ∃ c, σ.2 = some c ∧ J c σ.1) R
      (fun i σ vs hvs ⟨h1, h2⟩ => by
        obtain ⟨x, o⟩ := σ
        simp only at h1 h2;subst h1;refine (hround (w.heap.size + 1) r i x vs hvs h2 rfl rfl rfl rfl rfl ⟨hf.size, hf.get⟩).mono ?_;rintro v H' ⟨x', ⟨e1, e2, e3⟩ | ⟨e1, c, e2, e3⟩⟩
        · exact ⟨(x', none), e3, .inl ⟨e1, rfl, e2⟩⟩
        · exact ⟨(x', some c), e3, .inr ⟨e1, c, rfl, e2⟩⟩)
      ⟨_, rfl⟩ (x0, none) ⟨rfl, h0⟩
    have hs4 : Sat N R ((Own (x0, none) ++ HI) ++ (sng w.heap.size defO :: Hr)) w1 := hs3.perm (by
      simp only [Own, List.cons_append]
      exact (List.perm_middle.symm).cons _)
    have hs5 : Sat N (R1 ++ R) (Own (x0, none) ++ HI) w1 := (hs4.rsub (R' := R1 ++ R) (fun ρ hρ => by
      rcases List.mem_append.1 hρ with h | h
      · exact hR1 ρ h
      · exact h)).left
    have hc := hspec N w1 hs5
    unfold CallsV at hc
    have hname' : ¬ fn.name = "runtime.NumGoroutine" := by simpa using hname
    have hrun : ((do let d ← Deferred.ofValue (.func (.func gf) #[] cap.toArray) [yv (w.heap.size + 1)].toArray; invoke d.target d.args : Sem Next).run P w1) = .ok (.enter gf ([yv (w.heap.size + 1)] ++ cap).toArray) w1 := by
      simp [Deferred.ofValue, invoke, callFunc, program, Sem.run, bind, Sem.bind, pure, hgf, hgb, hname']
    rw [hrun] at hc;simp only at hc
    refine CallsIn.mono (show CallsIn (wideR none) 0 P gf _ w1 _ from hc) ?_
    rintro e w3 ⟨v, rfl, H', ⟨⟨x, o⟩, rfl, hfin⟩, hu⟩
    have hs6 := hs4.upd hu
    have hfin' : ∃ r', r'.state ≠ .busy ∧ Own (x, o) = sng (w.heap.size + 1) (.loop r') :: Hx x ∧ ((r'.pending = none ∧ I xs.length x) ∨ ∃ c, r'.pending = some c ∧ J c x) := by
      rcases hfin with ⟨h1, h2⟩ | ⟨c, h1, h2⟩
      · simp only at h1 h2; subst h1; exact ⟨r, by simp [r], rfl, .inl ⟨rfl, h2⟩⟩
      · simp only at h1 h2; subst h1; exact ⟨{ r with state := .done, pending := some c }, by simp, rfl, .inr ⟨c, rfl, h2⟩⟩
    obtain ⟨r', hb, ho, hfin'⟩ := hfin'
    rw [ho] at hs6;simp only [List.cons_append] at hs6
    have hown := hs6.own Take.here
    have hend : (Instr.endLoop (w.heap.size + 1)).run P w3 = .ok r'.pending { w3 with heap := w3.heap.setIfInBounds (w.heap.size + 1) (.loop { r' with state := .exhausted }) } := by
      simp [Instr.endLoop, run_getLoop hown, run_setLoop hown, hb]
    refine ⟨r'.pending, _, hend, ?_⟩
    have hs7 : Sat N R (sng w.heap.size defO :: (Hx x ++ Hr)) { w3 with heap := w3.heap.setIfInBounds (w.heap.size + 1) (.loop { r' with state := .exhausted }) } :=
      ((hs6.turnAny (o' := .loop { r' with state := .exhausted }) Take.here).tail).perm List.perm_middle
    have hfr : Frm M L { a with defers := [mk w.heap.size] ++ a.defers } := ⟨hf.size, hf.get⟩
    have hdf : ({ a with defers := [mk w.heap.size] ++ a.defers } : Act).defers = mk w.heap.size :: D := by simp [hd]
    rcases hfin' with ⟨hp, hI⟩ | ⟨c, hp, hJ⟩
    · rw [hp] at hs7 ⊢
      exact (hdone w.heap.size x hI).run _ _ hfr hdf hs7
    · rw [hp] at hs7 ⊢
      exact (hjump w.heap.size c x hJ).run _ _ hfr hdf hs7

theorem yield_specE {P : Program} {l M : Nat} {r : Loop} {ps : List Nat} {vs : List Value} {L' : Env} {post : Value → List PH → Prop} {A B : Code} (ha : r.assign = A) (hb : r.body = B) (hf : Frm M L ⟨r.tmps, []⟩) (hps : r.params = ps.toArray) (hpl : ∀ p ∈ ps, p < M) (hL : PutI ps vs L L')
    (h : ∀ N β, JK ⟨some l, P, fun _ _ _ => False, N, M⟩ [] (β :: R) (sng l (.loop r) :: H) L' [.code A, .till (wpK ⟨some l, P, RQ P l N (β :: R) post, N, M⟩ [.sem (Instr.beginRound l), .code B] .normal)]) :
    Spec P (yv l) vs R (sng l (.loop r) :: H) post := by
  subst ha hb;exact yield_spec hf hps hpl hL h
end Go.Eng
namespace Go.Flow
theorem needed_get : ∀ (ps : List (List Lk × Int)) (v : Int) (k : Nat), (∀ j, j < k → restV (ps.take j) v ≠ 0) → ∀ p, ps[k]? = some p → restV (ps.take k) v ≠ 0 → (neededL ps v)[k]? = some (p.1, min p.2 (restV (ps.take k) v))
  | [], _, _, _, p, hp, _ => by simp at hp
  | q :: ps, v, 0, _, p, hp, h => by
    simp only [List.getElem?_cons_zero, Option.some.injEq] at hp;subst hp;simp only [List.take_zero, restV] at h ⊢;unfold neededL;rw [if_neg h]
    rfl
  | q :: ps, v, k + 1, hj, p, hp, h => by
    have h0 := hj 0 (by omega)
    simp only [List.take_zero, restV] at h0;simp only [List.getElem?_cons_succ] at hp;simp only [List.take_succ_cons, restV] at h ⊢;unfold neededL;rw [if_neg h0, List.getElem?_cons_succ, Int.min_comm q.2 v]
    exact needed_get ps _ k (fun j hk => by
      have := hj (j + 1) (by omega)
      simpa only [List.take_succ_cons, restV] using this) p hp h
theorem needed_stop : ∀ (ps : List (List Lk × Int)) (v : Int) (k : Nat), (∀ j, j < k → restV (ps.take j) v ≠ 0) → k ≤ ps.length → (k = ps.length ∨ restV (ps.take k) v = 0) → (neededL ps v).length = k
  | [], _, k, _, hk, _ => by simp at hk; subst hk; rfl
  | q :: ps, v, 0, _, _, h => by
    rcases h with h | h
    · simp at h
    · simp only [List.take_zero, restV] at h
      unfold neededL;rw [if_pos h]
      rfl
  | q :: ps, v, k + 1, hj, hk, h => by
    have h0 := hj 0 (by omega)
    simp only [List.take_zero, restV] at h0;unfold neededL
    rw [if_neg h0, List.length_cons, Int.min_comm q.2 v, needed_stop ps _ k (fun j hk => by
      have := hj (j + 1) (by omega)
      simpa only [List.take_succ_cons, restV] using this) (by simpa using hk) (by simpa [List.take_succ_cons, restV] using h)]
end Go.Flow
namespace Go.Proofs.YtjehnjhkcmobcaaGreat
open Go.Eng Go.Step Go.Flow
set_option maxRecDepth 100000
set_option maxHeartbeats 64000000
theorem pathsV {τ:PH} {es:List (Value × Int)} {ps:PathL} (h:ArcsIn τ es ps) {i:Nat} {e:Value × Int} (he:es[i]?=some e):∃ (q:List Go.Flow.Lk × Int) (a:Option Addr) (c:Nat),ps[i]?=some q∧e.2=q.2∧e.1=.slice a q.1.length c∧IntsAt τ (.slice a (ksOf q.1).length c) (ksOf q.1):=by
 have hi:=(List.getElem?_eq_some_iff.1 he).1
 have hil:i<ps.length:=by rw [← h.1]; exact hi
 have hq:=List.getElem?_eq_getElem hil
 obtain ⟨h1,h2⟩:=h.2 i e _ he hq
 generalize ps[i]=q at hq h1 h2
 obtain ⟨a,c,e1,_⟩:=h2.val Eng.encI_len
 have hl:(ksOf q.1).length=q.1.length:=by unfold ksOf; rw [List.length_map]
 exact ⟨_,a,c,hq,h1,by rw [e1,hl],by rw [← e1]; exact h2⟩
theorem needed_iter (τ:PH) (p:Option Addr) (kk:Nat) (es:List (Value × Int)) (ps:PathL) (hes:SlE encPV 2 τ (.slice p es.length kk) es) (hai:ArcsIn τ es ps) (b1 b2:Nat) (v:Int) (hv:0≤v∧v≤1099511627776) (hps:∀ q∈ps,0≤q.2) (hl:ps.length≤20000) :
  IterW Tryz.prog (.func (.func 78) #[] #[.pointer (some ⟨b1,0,none⟩),.pointer (some ⟨b2,0,none⟩)]) [sng b1 (.cells #[.slice p es.length kk] 82 (0,0)),τ] [sng b2 (.cells #[int v] 3 (0,0))] (List.zipWith (fun e q=>[e.1,int q.2]) es (neededL ps v)):=by
 intro y S Own Inv Stop Ry hy hyl σ0 hI0
 obtain ⟨yl,rfl⟩:=hyl
 have bx25_3:=rdB b1 82 [.slice p es.length kk]
 have c1:=rdC bx25_3 0
 have hr:=rowN encPV_len hes
 have hel:=hai.1
 have hxl:∀ k,(neededL ps v).length=k→k≤ps.length→(List.zipWith (fun (e:Value × Int) (q:List Go.Flow.Lk × Int)=>[e.1,int q.2]) es (neededL ps v)).length=k:=fun k h1 h2=>by
  rw [List.length_zipWith,h1];omega
 simp only [List.cons_append,List.nil_append]
 refine spec_in (cap:=[.pointer (some ⟨b1,0,none⟩),.pointer (some ⟨b2,0,none⟩)]) Tryz.func78 rfl rfl Tryz.ntmps78 rfl envZ (fun N β=>?_)
 refine DD (H':=sng b2 (.cells #[int v] 3 (0,0))::Own σ0) (List.perm_append_comm (l₂:=[_])) ?_;refine Acz ?_;refine Afl ?_
 refine BA [0,1,2,7,8] (X:=Nat × S) (0,σ0) (fun z=>z.1≤ps.length∧(∀ j,j<z.1→restV (ps.take j) v≠0)∧Inv z.1 z.2) (fun z=>[(9,int z.1)]) (fun z=>sng b2 (.cells #[int (restV (ps.take z.1) v)] 3 (0,0))::Own z.2) (fun z=>ps.length-z.1) pickZ ⟨by dsimp only; omega,fun j hj=>by dsimp only at hj; omega,hI0⟩ covZ Sel.refl ?_
 rintro ⟨k,σ'⟩ ⟨hk,hlf,hI⟩
 dsimp only at hk hlf hI ⊢
 by_cases hlt:k<ps.length
 rotate_left
 ·have hke:k=ps.length:=by omega
  have hx:=hxl k (needed_stop ps v k hlf hk (.inl hke)) hk
  refine Acd ?_
  exact C6 (res0 rfl) (fun _ h=>h) (Sel.skip Sel.refl) ⟨σ',rfl,.inl (by rw [hx]; exact hI)⟩
 have hx:=List.getElem?_eq_getElem (show k<es.length by omega)
 obtain ⟨q,a,c,hq,e2,e1,_⟩:=pathsV hai hx
 have hqm:=hps q (List.mem_of_getElem? hq)
 have hlb:=restV_bd (ps.take k) v hv.1 (fun r hr=>hps r (List.mem_of_mem_take hr))
 have hnext:restV (ps.take (k+1)) v=restV (ps.take k) v-min q.2 (restV (ps.take k) v):=by
  obtain ⟨h1,h2⟩:=List.getElem?_eq_some_iff.1 hq
  rw [List.take_succ_eq_append_getElem h1,h2,restV_snoc,Int.min_comm]
 have hstop:=fun h0=>hxl k (needed_stop ps v k hlf hk (.inr h0)) hk
 have hget:=needed_get ps v k hlf q hq
 obtain ⟨b6,o6,ep,hrd⟩:=hr k _ hx
 rw [show encPV es[k]=[.slice a q.1.length c,int q.2] by unfold encPV; rw [e1,e2]] at hrd
 have hyk:=fun h0=>hy k σ' [.slice a q.1.length c,int (min q.2 (restV (ps.take k) v))] (by rw [List.getElem?_zipWith,hx,hget h0,← e1]) hI
 have hlf2:restV (ps.take k) v≠0→∀ j,j<k+1→restV (ps.take j) v≠0:=fun h0 j hj=>by
  by_cases hjk:j<k
  ·exact hlf j hjk
  ·have:j=k:=by omega
   subst this;exact h0
 generalize restV (ps.take k) v=L0 at hlb hnext hstop hget hyk hlf2
 subst ep
 by_cases h0:L0=0
 ·have hx2:=hstop h0
  refine Ac4 ?_;refine A4 ?_; rintro _ _ ⟨b,rfl,rfl⟩;refine AY ?_; rintro _ _ ⟨rfl,rfl⟩;refine Aat ?_;refine Acz ?_;refine Ag1 ?_
  exact AO (res0 rfl) (fun _ h=>h) (Sel.skip (Sel.skip Sel.refl)) ⟨σ',rfl,.inl (by rw [hx2]; exact hI)⟩
 refine Ac4 ?_;refine A4 ?_; rintro _ _ ⟨b,rfl,rfl⟩;refine AY ?_; rintro _ _ ⟨rfl,rfl⟩;refine Aat ?_;refine Acz ?_;refine Adu ?_;refine Aas ?_;refine AF ?_;refine EX ?_;refine Aaa ?_;refine Aex ?_;refine CP ?_;refine BS ?_; rintro _ _ ⟨rfl,rfl⟩;refine Aej ?_;refine Aad ?_;refine AB ?_
 refine BL (hyk h0) rfl rfl (Takes.skip (Takes.skip Takes.all)) (fun τ hτ=>.inl (by simp [hτ])) rfl rfl ?_
 rintro _ H' ⟨σ3,rfl,⟨rfl,hI3⟩|⟨rfl,hSt⟩⟩
 ·refine DD (H':=_::_::Own σ3) (List.perm_append_comm (l₂:=[_,_])) ?_
  refine Acw ?_;refine Abf ?_
  refine AT (k+1,σ3) ⟨by dsimp only; omega,hlf2 h0,hI3⟩ (by dsimp only; omega) covZ ?_
  dsimp only
  rw [hnext]
  first|exact Sel.cons .here (Sel.skip Sel.refl)|exact Sel.skip Sel.refl|exact Sel.cons (.there .here) Sel.refl
 ·refine BN ?_
  refine Aag ?_
  exact AO (res0 rfl) (fun _ h=>h) Sel.left ⟨σ3,rfl,.inr hSt⟩
theorem needed_spec (p:Option Addr) (n kk:Nat) (v:Int) :
  Eng.Spec Tryz.prog (fv 32) [.slice p n kk,int v] [] [] (fun r H'=>∃ b1 b2,r=.func (.func 78) #[] #[.pointer (some ⟨b1,0,none⟩),.pointer (some ⟨b2,0,none⟩)]∧H'=[sng b1 (.cells #[.slice p n kk] 82 (0,0)),sng b2 (.cells #[int v] 3 (0,0))]):=by
 refine spec_in (cap:=[]) Tryz.func32 rfl rfl Tryz.ntmps32 rfl envZ (fun N β=>?_)
 refine Aa ?_;refine E8 ?_; rintro _ _ ⟨b,rfl,rfl⟩;refine E8 ?_; rintro _ _ ⟨b,rfl,rfl⟩;refine Afa ?_;refine CL ?_;refine Aaa ?_;exact AO (res1 rfl rfl) rsubZ selZ ⟨_,_,rfl,rfl⟩
theorem flat_encI:∀ l:List Int,l.flatMap Eng.encI=l.map int
 | []=>rfl
 | a::l=>by rw [List.flatMap_cons,flat_encI l]; rfl
theorem ints_at {b:Nat} {t:TypeId} {fr:Nat × Nat} {c:Nat} (l:List Int):IntsAt (sng b (.cells (ints l) t fr)) (.slice (some ⟨b,0,none⟩) l.length c) l:=by
 have:=slE_sng (enc:=Eng.encI) (s:=1) Eng.encI_len (b:=b) (l:=l) (t:=t) (fr:=fr) (c:=c)
 rwa [show elems Eng.encI l=ints l by unfold elems ints; rw [flat_encI]] at this
def AnsAt (σ1 σ2 σ3:PH) (r:Value) (acc:Bool) (vol:Int) (ss:List Sh) (c:Cu):Prop:=
 ∃ (p1:Option Addr) (k1:Nat) (L:List Sq) (p2:Option Addr) (k2:Nat),r=.agg #[.bool acc,int vol,.slice p1 ss.length k1,.slice p2 L.length k2]∧ShAt σ1 (.slice p1 ss.length k1) ss∧CutL σ2 σ3 (.slice p2 L.length k2) L∧cuL L=c
theorem nilCut:CutL emp emp (.slice none 0 0) []:=⟨⟨rfl,.inl ⟨rfl,none,0,rfl⟩⟩,by simp⟩
theorem nilSh:ShAt emp (.slice none 0 0) []:=⟨rfl,.inl ⟨rfl,none,0,rfl⟩⟩
theorem Plan_spec {ρ τ σ υ:PH} {pq pc pb ph:Option Addr} {kq kc kb kh:Nat} {qs:List Int} {cs:List Ct} {bs:List Bk} {hs:List Hd} (hT:TbAt ρ τ σ υ pq pc pb ph kq kc kb kh qs cs bs hs) (d:Dm):Eng.Spec Tryz.prog (fv 9) [.agg #[.slice pq qs.length kq,.slice pc cs.length kc,.slice pb bs.length kb,.slice ph hs.length kh],.agg #[int d.s,int d.d,int d.v,int d.r,int d.e]] [ρ,τ,σ,υ] [] (fun r H'=>(validT qs cs bs hs d=true∧∃ (acc:Bool) (vol:Int) (ss:List Sh) (c:Cu) (a:Value) (σ1 σ2 σ3:PH),r=.tuple #[a,int 0]∧H'=[σ1,σ2,σ3]∧PlanOK qs cs bs hs d acc vol ss c∧AnsAt σ1 σ2 σ3 a acc vol ss c)∨(validT qs cs bs hs d=false∧H'=[]∧r=.tuple #[.agg #[.bool false,int 0,.slice none 0 0,.slice none 0 0],int 1])):=by
 refine spec_in (cap:=[]) Tryz.func9 rfl rfl Tryz.ntmps9 rfl envZ (fun N β=>?_)
 refine Aa ?_;refine BH (BO rfl) rfl rfl rfl ?_;rintro _ _ ⟨b1,rfl,rfl⟩;refine AW (ρ:=sng b1 _) takeZ ?_
 have ct:=rdB b1 29 [.slice pq qs.length kq,.slice pc cs.length kc,.slice pb bs.length kb,.slice ph hs.length kh]
 have ct0:=rdC ct 0
 have ct1:=rdC ct 1
 have ct2:=rdC ct 2
 have ct3:=rdC ct 3
 have ctp:=rdQ (xs:=[_,_]) ct
 refine BH (BO rfl) rfl rfl rfl ?_;rintro _ _ ⟨b2,rfl,rfl⟩;refine AW (ρ:=sng b2 _) takeZ ?_
 have cd:=rdB b2 31 [int d.s,int d.d,int d.v,int d.r,int d.e]
 have cd0:=rdC cd 0
 have cd1:=rdC cd 1
 have cd2:=rdC cd 2
 have cd3:=rdC cd 3
 have cd4:=rdC cd 4
 refine Afv ?_;refine BZ ?_;refine A4 ?_; rintro _ _ ⟨b,rfl,rfl⟩;refine Aaa ?_;refine Acu ?_
 revert b; intro b4
 refine BL (plMax_spec hT d) rfl rfl Takes.nil rdZ rfl rfl ?_;rintro _ H' (⟨hv,pg,kg,pf,kf,F,m,σg,σf,hAt,hF,hm,rfl,rfl⟩|⟨hv,rfl,rfl⟩)
 rotate_left
 ·refine AB ?_
  refine Aa8 ?_;refine Aa8 ?_;refine A4 ?_; rintro _ _ ⟨b,rfl,rfl⟩;refine AY ?_; rintro _ _ ⟨rfl,rfl⟩;refine Agx ?_;refine Ae0 ?_;refine BY ?_;refine AB ?_;refine AY ?_; rintro _ _ ⟨rfl,rfl⟩;refine Aaa ?_;exact AO (resSE (b1:=b4) (T:=42) (v1:=[.bool false,int 0,.slice none 0 0,.slice none 0 0]) rfl rfl rfl rfl rfl (cells_own memZ)) rsubZ selZ (.inr ⟨hv,rfl,rfl⟩)
 have h:=vok hv
 have hEl:=ea_len qs cs bs hs d h
 have hAl:(arcsG qs cs bs hs d).length=(arcsE qs cs bs hs d).length:=by unfold arcsG; rw [List.length_map]
 refine AW (ρ:=σg) takeZ ?_;refine AW (ρ:=σf) takeZ ?_;refine Ab ?_;refine Aa8 ?_;refine A4 ?_; rintro _ _ ⟨b,rfl,rfl⟩;refine AY ?_; rintro _ _ ⟨rfl,rfl⟩;refine Agx ?_;refine Aek ?_;refine Ach ?_
 revert b; intro bg
 by_cases hd:m<d.v
 ·have hK:=flowCut_spec σg (.slice pg (arcsG qs cs bs hs d).length kg) (vsN qs d) (vtx d d.s d.r) (vtx d d.d d.e) (arcsG qs cs bs hs d) hAt (by omega)
  refine CT ?_;refine Aag ?_;refine Ab4 ?_;refine Afc ?_;refine BV hK rfl rfl rdZ rfl rfl ?_;rintro _ σk ⟨fs,side,c0,e0,rfl,hI,hk⟩
  obtain ⟨pk,kk2,rfl,_⟩:=hI.val Eng.encI_len
  have hkN:CutN qs cs bs hs d side c0 e0:=hk
  obtain ⟨k1,k2,k3,k4,k5,k6⟩:=cut_facts h hv hm hkN
  subst k1 k2;refine AW (ρ:=σk) takeZ ?_
  have hD:=Sides_spec hT d σk _ side hI (by omega)
  rw [k3,if_pos rfl] at hD;refine Ab ?_;refine AP ?_;refine Agx ?_;refine Abh ?_;refine Acu ?_;refine AB ?_;refine BL hD rfl rfl Takes.nil rdZ rfl rfl ?_;rintro _ _ ⟨L,w,σ3,χ3,rfl,rfl,hL,hCL⟩
  obtain ⟨p2,k2,rfl,_⟩:=hCL.1.val encQ_len
  refine Ab0 ?_;refine Aay ?_;refine BY ?_;refine AB ?_;refine AY ?_; rintro _ _ ⟨rfl,rfl⟩;refine Aaa ?_;exact AO (resSE (b1:=b4) (T:=42) (v1:=[.bool false,int c0,.slice none 0 0,.slice p2 L.length k2]) rfl rfl rfl rfl rfl (cells_own memZ)) rsubZ selZ (.inl ⟨hv,false,c0,[],sidesC d qs.length side,_,emp,σ3,χ3,rfl,rfl,⟨F,c0,hm,.inl ⟨hd,rfl,rfl,rfl,side,c0,hkN,rfl⟩⟩,⟨none,0,L,p2,k2,rfl,nilSh,hCL,hL⟩⟩)
 have hP:=flowPaths_spec σg σf (.slice pg (arcsG qs cs bs hs d).length kg) (.slice pf F.length kf) (vsN qs d) (vtx d d.s d.r) (vtx d d.d d.e) (arcsG qs cs bs hs d) F hAt hF (by omega)
 refine Af ?_;refine Ab4 ?_;refine Abj ?_;refine BV hP rfl rfl rdZ rfl rfl ?_;rintro _ τp ⟨w,ps,e,rfl,hPA,hPO⟩
 have hPN:PathN qs cs bs hs d F ps e:=hPO
 obtain ⟨he,_⟩:=path_run h hv hm hPN
 subst he
 obtain ⟨_,N0,S0,T0,hN,hS,hT0,s1,s2,s3,hok,hfw,hmv,rr,hrun⟩:=path_run h hv hm hPN
 have hdm:=h.dm
 unfold okDm at hdm
 have hps0:∀ q∈ps,0≤q.2:=fun q hq=>Int.le_of_lt (hrun.pos hok s1 s3 hfw q hq)
 have hsm:=paths_small hPO
 obtain ⟨_,_,_,_,_,_,_,_,hse⟩:=part_ok h hv hm hPN (show d.v≤m by omega)
 have hmid:=fun (j i:Nat) (q:List Go.Flow.Lk × Int) (hq:(quotaL ps d.v)[j]?=some q)=>part_mid (i:=i) hok s1 s3 hrun hfw (v:=d.v) (by omega) hq
 have harc:=run_arcs hok s1 s3 hrun hfw
 have hcapb:∀ a∈arcsG qs cs bs hs d,a.c≤1099511627776:=fun a ha=>(okArc_iff.1 (hok a ha)).2.2.2.2.2.2
 obtain ⟨es,hes,hai⟩:=hPA
 obtain ⟨pp,kp,rfl,_⟩:=hes.val encPV_len
 refine AW (ρ:=τp) takeZ ?_
 have hlZ:(List.replicate (arcsG qs cs bs hs d).length (0:Int)).length=(arcsG qs cs bs hs d).length:=List.length_replicate
 have hfin:addMany (neededL ps d.v) (List.replicate (arcsG qs cs bs hs d).length 0)=partF qs cs bs hs d ps:=needed_sum ps d.v _ hps0
 refine Adi ?_;refine Abh ?_;refine Acr ?_;refine DX ?_; rintro _ _ ⟨b,rfl,rfl⟩;refine CK ?_; rintro _ _ ⟨b,rfl,rfl⟩;refine BS ?_; rintro _ _ ⟨rfl,rfl⟩;refine AE ?_;refine Ac9 ?_
 revert b; intro bp
 revert b; intro bz
 refine AW (ρ:=sng bp _) takeZ ?_
 have bx416_3:=rdB bp 22 [.slice (some ⟨bz,0,none⟩) (arcsG qs cs bs hs d).length (arcsG qs cs bs hs d).length]
 have bpf:=rdC bx416_3 0
 refine BL (needed_spec pp es.length kp d.v) rfl rfl Takes.nil (fun τ hτ=>by simp at hτ) rfl rfl ?_
 rintro _ _ ⟨b5,b6,rfl,rfl⟩;refine AW (ρ:=sng b5 _) takeZ ?_;refine AE ?_;refine AM ?_
 refine GL (gf:=78) (cap:=[.pointer (some ⟨b5,0,none⟩),.pointer (some ⟨b6,0,none⟩)]) (ps:=[90,91]) (X:=List Int) rfl Tryz.func78 rfl rfl
  (needed_iter τp pp kp es ps hes hai b5 b6 d.v (by omega) hps0 hsm.1) ?_
  (fun i x=>x=addMany ((neededL ps d.v).take i) (List.replicate (arcsG qs cs bs hs d).length 0))
  (fun x=>[sng bz (.cells (ints x) 3 (0,0))]) (fun _ _=>False) (List.replicate (arcsG qs cs bs hs d).length 0) rfl takesZ rfl ?_ ?_ ?_
 ·intro σ' hσ
  simp only [List.mem_cons,List.not_mem_nil,or_false] at hσ ⊢
  rcases hσ with h|h <;> simp [h]
 ·rintro lo r i x vs hvs hx hps has hbd hst hpe hfr
  obtain ⟨st,pe,fnn,tm,prm,asg,bdy,df⟩:=r
  simp only at hps has hbd hst hpe hfr;subst hps hst hpe;rw [List.getElem?_zipWith] at hvs
  cases he:es[i]? with
  | none=>simp [he] at hvs
  | some e =>
  cases hq:(neededL ps d.v)[i]? with
  | none=>simp [he,hq] at hvs
  | some q =>
  simp only [he,hq,Option.some.injEq] at hvs;subst hvs
  obtain ⟨n1,n2,n3,p0,n4,n5⟩:=needed_at hq
  obtain ⟨q',a,c,hq',e2,e1,hIa⟩:=pathsV hai he
  rw [n4] at hq'
  obtain rfl:=Option.some.inj hq'
  rw [← n5] at e1 hIa
  have hmid2:=fun j=>hmid i j q n3
  have hark:=fun x hx=>harc p0 (List.mem_of_getElem? n4) x (by rw [← n5]; exact hx)
  subst hx;rw [n1,n2,e1];simp only [addMany_snoc]
  generalize addMany ((quotaL ps d.v).take i) (List.replicate (arcsG qs cs bs hs d).length 0)=P0 at hmid2
  obtain ⟨_,_,ea,hra⟩:=hIa.val Eng.encI_len
  simp only [Value.slice.injEq] at ea
  obtain ⟨rfl,_,rfl⟩:=ea
  have hql:(ksOf q.1).length=q.1.length:=by unfold ksOf; rw [List.length_map]
  have hq2:=(hsm.2 p0 (List.mem_of_getElem? n4))
  rw [← n5] at hq2
  refine yield_specE has hbd hfr rfl (by intro p hp; simp at hp; omega) putiZ (fun N' β'=>?_)
  refine Aai ?_;refine AA ?_;refine Aaa ?_;refine DI rfl rfl ?_;refine DW takeZ rfl ?_;refine AM ?_;refine Aac ?_;refine Afl ?_
  refine BA [15,17,92,93] (0:Nat) (fun j=>j≤q.1.length) (fun j=>[(94,int j)]) (fun j=>[sng bz (.cells (ints (addAll q.2 P0 (q.1.take j))) 3 (0,0)),sng lo (.loop { state:=.busy,pending:=none,fn:=fnn,tmps:=tm,params:=[90,91].toArray,assign:=asg,body:=bdy,defers:=df })]) (fun j=>q.1.length-j) pickZ (by omega) covZ selZ ?_
  rintro j hj
  by_cases hlt:j<q.1.length
  rotate_left
  ·rw [List.take_of_length_le (by omega)]
   refine Acd ?_;refine A2 ?_;exact CH takeZ rsubZ selZ ⟨addAll q.2 P0 q.1,.inl ⟨rfl,rfl,rfl⟩⟩
  have hx:=List.getElem?_eq_getElem hlt
  have hm1:=hmid2 j
  have hm2:=hmid2 (j+1)
  rw [List.take_succ_eq_append_getElem hlt,addAll_snoc] at hm2
  have hxk:=hark _ (List.getElem_mem hlt)
  have hta:addAll q.2 P0 (q.1.take (j+1))=addP q.2 (addAll q.2 P0 (q.1.take j)) q.1[j]:=by rw [List.take_succ_eq_append_getElem hlt,addAll_snoc]
  have hkx:(ksOf q.1)[j]?=some ((q.1[j].k:Nat):Int):=by unfold ksOf; rw [List.getElem?_map,hx]; rfl
  obtain ⟨b7,o7,ep,gk⟩:=hra.int hkx
  generalize addAll q.2 P0 (q.1.take j)=P at hm1 hm2 hta
  generalize q.1[j]=y at hx hm2 hxk hta gk hkx
  obtain ⟨s4,s5⟩:=part_step hcapb hm1.1 hm1.2 hm2.1 hxk
  have hPl:=hm1.2
  subst ep;refine Aed ?_;refine Aaa ?_;refine AA ?_;refine Abq ?_;refine Afn ?_;refine CB ?_;refine BR ?_;refine DA ?_; rintro _ _ ⟨rfl,rfl⟩;refine Ae9 ?_
  refine AT (j+1) (by omega) (by omega) covZ ?_
  rw [hta];exact selZ
 ·rintro b9 x hx
  have hxl:(List.zipWith (fun (e:Value × Int) (q:List Go.Flow.Lk × Int)=>[e.1,int q.2]) es (neededL ps d.v)).length=(neededL ps d.v).length:=by
   have:=needed_len ps d.v
   have:=hai.1
   rw [List.length_zipWith];omega
  rw [hxl,List.take_length,hfin] at hx;subst hx
  have hpl2:(partF qs cs bs hs d ps).length=(arcsG qs cs bs hs d).length:=by unfold partF; rw [addMany_len,hlZ]
  have hIz:IntsAt (sng bz (.cells (ints (partF qs cs bs hs d ps)) 3 (0,0))) (.slice (some ⟨bz,0,none⟩) (arcsG qs cs bs hs d).length (arcsG qs cs bs hs d).length) (partF qs cs bs hs d ps):=by
   rw [← hpl2];exact ints_at _
  have hSh:=Shipments_spec hT d _ _ _ hIz
  rw [hse,show shipsR qs cs bs hs d (partF qs cs bs hs d ps)=shipsF (arcsE qs cs bs hs d) (partF qs cs bs hs d ps) by unfold shipsR; rw [if_pos hse]] at hSh
  refine AW (ρ:=sng bz _) takeZ ?_;refine A2 ?_;refine Acu ?_;refine AF ?_;refine BV hSh rfl rfl rdZ rfl rfl ?_;rintro _ σs ⟨us,rfl,hOs⟩
  have hSs:ShAt σs us (shipsF (arcsE qs cs bs hs d) (partF qs cs bs hs d ps)):=hOs.at
  obtain ⟨p1,k1,rfl⟩:=hOs.form
  refine Ab0 ?_;refine Ach ?_;refine BY ?_;refine AB ?_;refine AY ?_; rintro _ _ ⟨rfl,rfl⟩;refine Aaa ?_
  refine E3 (v:=.tuple #[.agg #[.bool true,int d.v,.slice p1 (shipsF (arcsE qs cs bs hs d) (partF qs cs bs hs d ps)).length k1,.slice none 0 0],int 0]) (Marks.cons takeZ .nil) ?_ rsubZ ?_ (.inl ⟨hv,true,d.v,shipsF (arcsE qs cs bs hs d) (partF qs cs bs hs d ps),[],_,σs,emp,emp,rfl,rfl,⟨F,m,hm,.inr ⟨by omega,rfl,rfl,rfl,ps,hPN,rfl⟩⟩,⟨p1,k1,[],none,0,rfl,hSs,nilCut,rfl⟩⟩)
  ·exact resSE (b1:=b4) (T:=42) (v1:=[.bool true,int d.v,.slice p1 (shipsF (arcsE qs cs bs hs d) (partF qs cs bs hs d ps)).length k1,.slice none 0 0]) rfl rfl rfl rfl rfl (cells_own memZ)
  ·exact selZ
 ·rintro _ _ _ h; exact h.elim
end Go.Proofs.YtjehnjhkcmobcaaGreat
namespace Go.Proofs.YtjehnjhkcmobcaaGreat
open Go.Eng Go.Step
set_option maxRecDepth 100000
set_option maxHeartbeats 64000000
def encD (d:Dm):List Value:=[int d.s,int d.d,int d.v,int d.r,int d.e]
theorem encD_len (d:Dm):(encD d).length=5:=rfl
def enc4 (x:Value × Value × Value × Value):List Value:=[x.1,x.2.1,x.2.2.1,x.2.2.2]
theorem enc4_len (x:Value × Value × Value × Value):(enc4 x).length=4:=rfl
theorem AnsAt.sub {σ1 σ2 σ3 γ:PH} {r:Value} {acc:Bool} {vol:Int} {ss:List Sh} {c:Cu} (h:AnsAt σ1 σ2 σ3 r acc vol ss c) (h1:PH.sub σ1 γ) (h2:PH.sub σ2 γ) (h3:PH.sub σ3 γ):AnsAt γ γ γ r acc vol ss c:=by
 obtain ⟨p1,k1,L,p2,k2,e,hS,hC,hL⟩:=h
 exact ⟨p1,k1,L,p2,k2,e,h1.slE hS,⟨h2.slE hC.1,fun x hx=>⟨h3.slE (hC.2 x hx).1,(hC.2 x hx).2⟩⟩,hL⟩
def AnsL (γ:PH) (raw:List (Value × Value × Value × Value)) (an:List An):Prop:=
 raw.length=an.length∧∀ (i:Nat) (x:Value × Value × Value × Value) (a:An),raw[i]?=some x→an[i]?=some a→AnsAt γ γ γ (.agg #[x.1,x.2.1,x.2.2.1,x.2.2.2]) a.acc a.vol a.ss a.c
theorem AnsL.nil (γ:PH):AnsL γ [] []:=⟨rfl,fun i x a h=>by simp at h⟩
theorem AnsL.snoc {γ g:PH} {raw:List (Value × Value × Value × Value)} {an:List An} {x:Value × Value × Value × Value} {a:An} (h:AnsL γ raw an) (hs:PH.sub γ g) (hx:AnsAt g g g (.agg #[x.1,x.2.1,x.2.2.1,x.2.2.2]) a.acc a.vol a.ss a.c):AnsL g (raw ++ [x]) (an ++ [a]):=by
 refine ⟨by rw [List.length_append,List.length_append,h.1]; rfl,fun i y b h1 h2=>?_⟩
 by_cases hi:i<raw.length
 ·rw [List.getElem?_append_left hi] at h1
  rw [List.getElem?_append_left (by rw [← h.1]; exact hi)] at h2
  exact (h.2 i y b h1 h2).sub hs hs hs
 ·rw [List.getElem?_append_right (by omega)] at h1
  rw [List.getElem?_append_right (by rw [← h.1]; omega),← h.1] at h2
  have hz:i-raw.length=0:=by
   have:=(List.getElem?_eq_some_iff.1 h1).1
   simp at this
   omega
  rw [hz] at h1 h2
  simp at h1 h2
  subst h1;subst h2;exact hx
theorem plan_len {qs:List Int} {cs:List Ct} {bs:List Bk} {hs:List Hd} {d:Dm} (h:VOk qs cs bs hs d) {acc:Bool} {vol:Int} {ss:List Sh} {c:Cu} (hp:PlanOK qs cs bs hs d acc vol ss c):ss.length≤500000∧c.length≤1000000:=by
 have hEl:=h.len
 obtain ⟨F,m,hm,hp⟩:=hp
 rcases hp with ⟨_,_,_,rfl,side,k,_,rfl⟩|⟨_,_,_,rfl,ps,_,rfl⟩
 ·exact ⟨by simp,by rw [sidesC_len]; have:=h.nq; omega⟩
 ·have hl:=shipsF_len (arcsE qs cs bs hs d) (partF qs cs bs hs d ps)
  exact ⟨by omega,by simp⟩
theorem Matrix_spec {ρ τ σ υ:PH} (δ:PH) {pq pc pb ph:Option Addr} {kq kc kb kh:Nat} {qs:List Int} {cs:List Ct} {bs:List Bk} {hs:List Hd} (hT:TbAt ρ τ σ υ pq pc pb ph kq kc kb kh qs cs bs hs) (v:Value) (l:List Dm) (hv:SlE encD 5 δ v l) (hll:l.length≤1000) :
  Eng.Spec Tryz.prog (fv 16) [.agg #[.slice pq qs.length kq,.slice pc cs.length kc,.slice pb bs.length kb,.slice ph hs.length kh],v] [ρ,τ,σ,υ,δ] [] (fun r H'=>∃ (pu:Option Addr) (ku:Nat) (e:Int) (raw:List (Value × Value × Value × Value)) (an:List An) (σu γ:PH),r=.tuple #[.slice pu raw.length ku,int e]∧H'=[σu,γ]∧raw.length≤ku∧SlE enc4 4 σu (.slice pu raw.length ku) raw∧AnsL γ raw an∧MtxR qs cs bs hs l an e):=by
 obtain ⟨pl,kl,rfl,hr⟩:=hv.val encD_len
 refine spec_in (cap:=[]) Tryz.func16 rfl rfl Tryz.ntmps16 rfl envZ (fun N β=>?_)
 refine Aa ?_;refine BH (BO rfl) rfl rfl rfl ?_;rintro _ _ ⟨b2,rfl,rfl⟩;refine Afv ?_;refine Afv ?_;refine Aal ?_;refine Ad6 ?_
 refine BA [2,11,12] (X:=Nat × List An × (Value × List (Value × Value × Value × Value) × PH) × PH × (List Bk × List Hd) × ((Option Addr × Nat) × PH) × ((Option Addr × Nat) × PH)) (0,[],(.slice none 0 0,[],emp),emp,(bs,hs),((pb,kb),emp),((ph,kh),emp)) (fun x=>x.1≤l.length∧MxS qs cs bs hs (l.take x.1) x.2.1 x.2.2.2.2.1.1 x.2.2.2.2.1.2∧OwnS 42 4 x.2.2.1.1 x.2.2.1.2.1.length (x.2.2.1.2.1.flatMap enc4) x.2.2.1.2.2∧AnsL x.2.2.2.1 x.2.2.1.2.1 x.2.1∧(SlE encB 4 σ (.slice x.2.2.2.2.2.1.1.1 x.2.2.2.2.1.1.length x.2.2.2.2.2.1.1.2) x.2.2.2.2.1.1∨SlE encB 4 x.2.2.2.2.2.1.2 (.slice x.2.2.2.2.2.1.1.1 x.2.2.2.2.1.1.length x.2.2.2.2.2.1.1.2) x.2.2.2.2.1.1)∧(HdAt υ (.slice x.2.2.2.2.2.2.1.1 x.2.2.2.2.1.2.length x.2.2.2.2.2.2.1.2) x.2.2.2.2.1.2∨HdAt x.2.2.2.2.2.2.2 (.slice x.2.2.2.2.2.2.1.1 x.2.2.2.2.1.2.length x.2.2.2.2.2.2.1.2) x.2.2.2.2.1.2)∧x.2.2.2.2.1.1.length≤9223372036854775807∧x.2.2.2.2.1.2.length≤9223372036854775807) (fun x=>[(13,int x.1),(6,x.2.2.1.1)]) (fun x=>[sng b2 (.cells #[.slice pq qs.length kq,.slice pc cs.length kc,.slice x.2.2.2.2.2.1.1.1 x.2.2.2.2.1.1.length x.2.2.2.2.2.1.1.2,.slice x.2.2.2.2.2.2.1.1 x.2.2.2.2.1.2.length x.2.2.2.2.2.2.1.2] 29 (0,0)),x.2.2.1.2.2,x.2.2.2.1,x.2.2.2.2.2.1.2,x.2.2.2.2.2.2.2]) (fun x=>l.length-x.1) pickZ ⟨by dsimp only; omega,⟨rfl,rfl,rfl⟩,OwnS.nil _ _,AnsL.nil _,.inl hT.hb,.inl hT.hh,hT.lb,hT.lh⟩ covZ selZ ?_
 rintro ⟨k,an,⟨u,raw,σu⟩,γ,⟨bs1,hs1⟩,⟨⟨p5,k5⟩,χb⟩,⟨⟨p6,k6⟩,χh⟩⟩ ⟨hk,hS,hO,hA,hB,hH,lb1,lh1⟩
 dsimp only at hk hS hO hA hB hH lb1 lh1 ⊢
 by_cases hlt:k<l.length
 rotate_left
 ·have hke:k=l.length:=by omega
  rw [hke,List.take_length] at hS
  obtain ⟨pu,ku,rfl,hcu⟩:=hO.formC
  refine Acd ?_;refine Afh ?_;exact AO (res2 rfl rfl rfl) rsubZ selZ ⟨pu,ku,0,raw,an,σu,γ,rfl,rfl,hcu,hO.at,hA,.inl ⟨rfl,bs1,hs1,hS⟩⟩
 have hx:=List.getElem?_eq_getElem hlt
 have hrl:raw.length≤1000:=by
  have h1:=hA.1
  have h2:=hS.len
  rw [List.length_take] at h2;omega
 have hsn:l.take (k+1)=l.take k ++ [l[k]]:=List.take_succ_eq_append_getElem hlt
 obtain ⟨b15,o15,rfl,hrd⟩:=hr k _ hx
 generalize l[k]=d at hx hsn hrd
 have hrd2:RdN δ b15 (o15+k*5) [int d.s,int d.d,int d.v,int d.r,int d.e]:=hrd
 refine D3 (P:=fun x=>SlE encB 4 x (.slice p5 bs1.length k5) bs1) (σ:=σ) (χ:=χb) memZ takeZ hB (fun σ' hB'=>?_)
 refine D3 (P:=fun x=>HdAt x (.slice p6 hs1.length k6) hs1) (σ:=υ) (χ:=χh) memZ takeZ hH (fun υ' hH'=>?_)
 have hT1:TbAt ρ τ σ' υ' pq pc p5 p6 kq kc k5 k6 qs cs bs1 hs1:=⟨hT.hq,hT.hc,hT.hcap,hT.lq,hT.lc,hB',lb1,hH',lh1⟩
 refine Ac4 ?_;refine A4 ?_; rintro _ _ ⟨b,rfl,rfl⟩;refine AY ?_; rintro _ _ ⟨rfl,rfl⟩;refine AE ?_;refine Acu ?_
 revert b; intro b8
 refine BL (Plan_spec hT1 d) rfl rfl Takes.nil rdZ rfl rfl ?_;rintro _ _ (⟨hvd,acc,vol,ss,c,a,σ1,σ2,σ3,rfl,rfl,hP,hAn⟩|⟨hvd,rfl,rfl⟩)
 rotate_left
 ·refine AB ?_
  refine Aa8 ?_;refine A4 ?_; rintro _ _ ⟨b,rfl,rfl⟩;refine AY ?_; rintro _ _ ⟨rfl,rfl⟩;refine Adz ?_;refine Ag6 ?_
  exact AO (res2 rfl rfl rfl) rsubZ selZ ⟨none,0,1,[],[],σu,γ,rfl,rfl,Nat.le_refl _,⟨rfl,.inl ⟨rfl,none,0,rfl⟩⟩,AnsL.nil _,.inr ⟨by decide,rfl,k,d,bs1,hs1,an,hx,hS,.inl ⟨hvd,rfl⟩⟩⟩
 have hpl:=plan_len (vok hvd) hP
 have hAn2:=hAn
 obtain ⟨p1,k1,L,p2,k2,rfl,hSh,hC,hcL⟩:=hAn2
 refine Ab ?_;refine A4 ?_; rintro _ _ ⟨b,rfl,rfl⟩;refine AY ?_; rintro _ _ ⟨rfl,rfl⟩;refine Adz ?_;refine Abh ?_;refine Aac ?_;refine AV ?_;refine AZ ?_; rintro _ _ ⟨b,rfl,rfl⟩
 revert b; intro b9
 refine BH (BI (by_:=64) (s:=4) (news:=[.bool acc,int vol,.slice p1 ss.length k1,.slice p2 L.length k2]) rfl rfl rfl rfl rfl rfl rfl hO takeZ (cells_own memZ) rfl oneZ (by omega) (by simp only [maxLen]; omega) (by omega)) rfl rfl rfl ?_
 rintro u1 _ ⟨σu1,hO1,rfl⟩;refine Aaa ?_;refine Abt ?_;refine Aad ?_;refine BL (Reserve_spec σ1 hT1 _ ss hSh hpl.1) rfl rfl Takes.nil rdZ rfl rfl ?_;rintro _ _ (⟨e,he,rfl,rfl,hR⟩|⟨bs2,hs2,p7,k7,p8,k8,σ7,σ8,rfl,rfl,hR,l5,l6,hB2,hH2⟩)
 ·refine AB ?_
  refine Aa8 ?_;refine AY ?_; rintro _ _ ⟨rfl,rfl⟩;refine Abr ?_;refine Ag6 ?_;exact AO (res2 rfl rfl rfl) rsubZ selZ ⟨none,0,e,[],[],σu1,γ,rfl,rfl,Nat.le_refl _,⟨rfl,.inl ⟨rfl,none,0,rfl⟩⟩,AnsL.nil _,.inr ⟨he,rfl,k,d,bs1,hs1,an,hx,hS,.inr ⟨hvd,⟨acc,vol,ss,c⟩,[],[],hP,hR⟩⟩⟩
 refine Ab ?_;refine AY ?_; rintro _ _ ⟨rfl,rfl⟩;refine Ahd ?_;refine Abf ?_
 refine DC (ρ:=γ) (σ:=σ1) takeZ takeZ (fun g1 a1 a2=>?_)
 refine DC (ρ:=g1) (σ:=σ2) takeZ takeZ (fun g2 a3 a4=>?_)
 refine DC (ρ:=g2) (σ:=σ3) takeZ takeZ (fun g3 a5 a6=>?_)
 refine DF (DF ?_)
 refine AT (k+1,an ++ [⟨acc,vol,ss,c⟩],(u1,raw ++ [(.bool acc,int vol,.slice p1 ss.length k1,.slice p2 L.length k2)],σu1),g3,(bs2,hs2),((p7,k7),σ7),((p8,k8),σ8)) ⟨by dsimp only; omega,?_,?_,?_,.inr hB2,.inr hH2,by dsimp only; omega,by dsimp only; omega⟩ (by dsimp only; omega) covZ selZ
 ·dsimp only
  rw [hsn];exact hS.snoc hvd hP hR
 ·dsimp only
  rw [List.length_append,List.flatMap_append];exact hO1
 ·dsimp only
  refine hA.snoc ((a1.trans a3).trans a5) ?_;exact hAn.sub ((a2.trans a3).trans a5) (a4.trans a5) a6
end Go.Proofs.YtjehnjhkcmobcaaGreat
namespace Go.Proofs.YtjehnjhkcmobcaaGreat
open Go.Eng Go.Step Go.Flow
set_option maxRecDepth 100000
set_option maxHeartbeats 64000000
theorem refPlan_spec {ρ τ σ υ:PH} {pq pc pb ph:Option Addr} {kq kc kb kh:Nat} {qs:List Int} {cs:List Ct} {bs:List Bk} {hs:List Hd} (hT:TbAt ρ τ σ υ pq pc pb ph kq kc kb kh qs cs bs hs) (d:Dm):Eng.Spec Tryz.prog (fv 48) [.agg #[.slice pq qs.length kq,.slice pc cs.length kc,.slice pb bs.length kb,.slice ph hs.length kh],.agg #[int d.s,int d.d,int d.v,int d.r,int d.e]] [ρ,τ,σ,υ] [] (fun r H'=>(validT qs cs bs hs d=true∧∃ (acc:Bool) (vol:Int) (ss:List Sh) (c:Cu) (a:Value) (σ1 σ2 σ3:PH),r=.tuple #[a,int 0]∧H'=[σ1,σ2,σ3]∧PlanOK qs cs bs hs d acc vol ss c∧AnsAt σ1 σ2 σ3 a acc vol ss c)∨(validT qs cs bs hs d=false∧H'=[]∧r=.tuple #[.agg #[.bool false,int 0,.slice none 0 0,.slice none 0 0],int 1])):=by
 refine spec_in (cap:=[]) Tryz.func48 rfl rfl Tryz.ntmps48 rfl envZ (fun N β=>?_)
 refine Aa ?_;refine BH (BO rfl) rfl rfl rfl ?_;rintro _ _ ⟨b1,rfl,rfl⟩;refine AW (ρ:=sng b1 _) takeZ ?_
 have ct:=rdB b1 29 [.slice pq qs.length kq,.slice pc cs.length kc,.slice pb bs.length kb,.slice ph hs.length kh]
 have ct0:=rdC ct 0
 have ct1:=rdC ct 1
 have ct2:=rdC ct 2
 have ct3:=rdC ct 3
 have ctp:=rdQ (xs:=[_,_]) ct
 refine BH (BO rfl) rfl rfl rfl ?_;rintro _ _ ⟨b2,rfl,rfl⟩;refine AW (ρ:=sng b2 _) takeZ ?_
 have cd:=rdB b2 31 [int d.s,int d.d,int d.v,int d.r,int d.e]
 have cd0:=rdC cd 0
 have cd1:=rdC cd 1
 have cd2:=rdC cd 2
 have cd3:=rdC cd 3
 have cd4:=rdC cd 4
 refine Afv ?_;refine BZ ?_;refine A4 ?_; rintro _ _ ⟨b,rfl,rfl⟩;refine Abl ?_;refine Acu ?_
 revert b; intro b4
 refine BC (refCheck53_spec hT d) rfl rfl rdZ rfl rfl ?_;rintro _ rfl
 cases hv:validT qs cs bs hs d with
 | false =>
  refine Afo ?_;refine BY ?_;refine AY ?_; rintro _ _ ⟨rfl,rfl⟩;refine Aaa ?_;exact AO (resSE (b1:=b4) (T:=42) (v1:=[.bool false,int 0,.slice none 0 0,.slice none 0 0]) rfl rfl rfl rfl rfl (cells_own memZ)) rsubZ selZ (.inr ⟨rfl,rfl,rfl⟩)
 | true =>
 refine Acw ?_;refine Acu ?_;refine BL (refmost_spec hT d hv) rfl rfl Takes.nil rdZ rfl rfl ?_;rintro _ _ ⟨pg,kg,pf,kf,F,m,σg,σf,hAt,hF,hm,rfl,rfl⟩
 have h:=vok hv
 have hEl:=ea_len qs cs bs hs d h
 have hAl:(arcsG qs cs bs hs d).length=(arcsE qs cs bs hs d).length:=by unfold arcsG; rw [List.length_map]
 refine AW (ρ:=σg) takeZ ?_;refine AW (ρ:=σf) takeZ ?_;refine Ab ?_;refine AP ?_;refine A4 ?_; rintro _ _ ⟨b,rfl,rfl⟩;refine AY ?_; rintro _ _ ⟨rfl,rfl⟩;refine Aal ?_;refine Ac9 ?_
 revert b; intro bg
 by_cases hd:m<d.v
 ·have hK:=refCut_spec σg (.slice pg (arcsG qs cs bs hs d).length kg) (vsN qs d) (vtx d d.s d.r) (vtx d d.d d.e) (arcsG qs cs bs hs d) hAt (by omega)
  refine BD ?_;refine Aag ?_;refine Ab4 ?_;refine Afc ?_;refine BV hK rfl rfl rdZ rfl rfl ?_;rintro _ σk ⟨fs,side,c0,e0,rfl,hI,hk⟩
  obtain ⟨pk,kk2,rfl,_⟩:=hI.val Eng.encI_len
  have hkN:CutN qs cs bs hs d side c0 e0:=hk
  obtain ⟨k1,k2,k3,k4,k5,k6⟩:=cut_facts h hv hm hkN
  subst k1 k2;refine AW (ρ:=σk) takeZ ?_
  have hD:=refSides_spec hT d σk _ side hI (by omega)
  rw [k3,if_pos rfl] at hD;refine Ab ?_;refine AP ?_;refine Acy ?_;refine Acu ?_;refine AB ?_;refine BL hD rfl rfl Takes.nil rdZ rfl rfl ?_;rintro _ _ ⟨L,w,σ3,χ3,rfl,rfl,hL,hCL⟩
  obtain ⟨p2,k2,rfl,_⟩:=hCL.1.val encQ_len
  refine Ab0 ?_;refine Aay ?_;refine BY ?_;refine AY ?_; rintro _ _ ⟨rfl,rfl⟩;refine Aaa ?_;exact AO (resSE (b1:=b4) (T:=42) (v1:=[.bool false,int c0,.slice none 0 0,.slice p2 L.length k2]) rfl rfl rfl rfl rfl (cells_own memZ)) rsubZ selZ (.inl ⟨rfl,false,c0,[],sidesC d qs.length side,_,emp,σ3,χ3,rfl,rfl,⟨F,c0,hm,.inl ⟨hd,rfl,rfl,rfl,side,c0,hkN,rfl⟩⟩,⟨none,0,L,p2,k2,rfl,nilSh,hCL,hL⟩⟩)
 have hP:=refPaths_spec σg σf (.slice pg (arcsG qs cs bs hs d).length kg) (.slice pf F.length kf) (vsN qs d) (vtx d d.s d.r) (vtx d d.d d.e) (arcsG qs cs bs hs d) F hAt hF (by omega)
 refine Aeb ?_;refine Ab4 ?_;refine Abj ?_;refine BV hP rfl rfl rdZ rfl rfl ?_;rintro _ τp ⟨w,ps,e,rfl,hPA,hPO⟩
 have hPN:PathN qs cs bs hs d F ps e:=hPO
 obtain ⟨he,_⟩:=path_run h hv hm hPN
 subst he
 obtain ⟨_,N0,S0,T0,hN,hS,hT0,s1,s2,s3,hok,hfw,hmv,rr,hrun⟩:=path_run h hv hm hPN
 have hdm:=h.dm
 unfold okDm at hdm
 have hps0:∀ q∈ps,0≤q.2:=fun q hq=>Int.le_of_lt (hrun.pos hok s1 s3 hfw q hq)
 have hsm:=paths_small hPO
 obtain ⟨_,_,_,_,_,_,_,_,hse⟩:=part_ok h hv hm hPN (show d.v≤m by omega)
 have hmid:=fun (j i:Nat) (q:List Go.Flow.Lk × Int) (hq:(quotaL ps d.v)[j]?=some q)=>part_mid (i:=i) hok s1 s3 hrun hfw (v:=d.v) (by omega) hq
 have harc:=run_arcs hok s1 s3 hrun hfw
 have hcapb:∀ a∈arcsG qs cs bs hs d,a.c≤1099511627776:=fun a ha=>(okArc_iff.1 (hok a ha)).2.2.2.2.2.2
 obtain ⟨es,hes,hai⟩:=hPA
 obtain ⟨pp,kp,rfl,_⟩:=hes.val encPV_len
 have hrp:=rowN encPV_len hes
 have hel:=hai.1
 refine AW (ρ:=τp) takeZ ?_
 have hlZ:(List.replicate (arcsG qs cs bs hs d).length (0:Int)).length=(arcsG qs cs bs hs d).length:=List.length_replicate
 have hfin:addMany (quotaL ps d.v) (List.replicate (arcsG qs cs bs hs d).length 0)=partF qs cs bs hs d ps:=rfl
 refine Ab0 ?_;refine Acr ?_;refine DX ?_; rintro _ _ ⟨b,rfl,rfl⟩;refine Aaa ?_;refine Aas ?_;refine Adt ?_
 revert b; intro bz
 refine BA [2,3,4,14,16] (0:Nat) (fun i=>i≤ps.length) (fun i=>[(18,int i),(17,int (restV (ps.take i) d.v))]) (fun i=>[sng bz (.cells (ints (addMany ((quotaL ps d.v).take i) (List.replicate (arcsG qs cs bs hs d).length 0))) 3 (0,0)),sng b4 (.cells #[.bool false,int 0,.slice none 0 0,.slice none 0 0] 42 (0,0)),emp,emp,emp]) (fun i=>ps.length-i) pickZ (by omega) covZ selZ ?_
 rintro i hi
 by_cases hil:i<ps.length
 rotate_left
 ·rw [List.take_of_length_le (by rw [quotaL_len]; omega),hfin]
  have hpl2:(partF qs cs bs hs d ps).length=(arcsG qs cs bs hs d).length:=by unfold partF; rw [addMany_len,hlZ]
  have hIz:IntsAt (sng bz (.cells (ints (partF qs cs bs hs d ps)) 3 (0,0))) (.slice (some ⟨bz,0,none⟩) (arcsG qs cs bs hs d).length (arcsG qs cs bs hs d).length) (partF qs cs bs hs d ps):=by
   rw [← hpl2];exact ints_at _
  have hSh:=refShips53_spec hT d _ _ _ hIz
  rw [hse,show shipsR qs cs bs hs d (partF qs cs bs hs d ps)=shipsF (arcsE qs cs bs hs d) (partF qs cs bs hs d ps) by unfold shipsR; rw [if_pos hse]] at hSh
  refine AW (ρ:=sng bz _) takeZ ?_;refine Aci ?_;refine Acu ?_;refine AB ?_;refine BV hSh rfl rfl rdZ rfl rfl ?_;rintro _ σs ⟨us,rfl,hOs⟩
  have hSs:ShAt σs us (shipsF (arcsE qs cs bs hs d) (partF qs cs bs hs d ps)):=hOs.at
  obtain ⟨p1,k1,rfl⟩:=hOs.form
  refine Ab0 ?_;refine Ach ?_;refine BY ?_;refine AY ?_; rintro _ _ ⟨rfl,rfl⟩;refine Aaa ?_
  exact AO (resSE (b1:=b4) (T:=42) (v1:=[.bool true,int d.v,.slice p1 (shipsF (arcsE qs cs bs hs d) (partF qs cs bs hs d ps)).length k1,.slice none 0 0]) rfl rfl rfl rfl rfl (cells_own memZ)) rsubZ selZ (.inl ⟨rfl,true,d.v,shipsF (arcsE qs cs bs hs d) (partF qs cs bs hs d ps),[],_,σs,emp,emp,rfl,rfl,⟨F,m,hm,.inr ⟨by omega,rfl,rfl,rfl,ps,hPN,rfl⟩⟩,⟨p1,k1,[],none,0,rfl,hSs,nilCut,rfl⟩⟩)
 have hx:=List.getElem?_eq_getElem (show i<es.length by omega)
 obtain ⟨p0,a,c,n4,e2,e1,hIa⟩:=pathsV hai hx
 have hlb:=restV_bd (ps.take i) d.v (by omega) (fun r hr=>hps0 r (List.mem_of_mem_take hr))
 have hp0:=hps0 p0 (List.mem_of_getElem? n4)
 have n3:(quotaL ps d.v)[i]?=some (p0.1,min (restV (ps.take i) d.v) p0.2):=by rw [quotaL_get,n4]; rfl
 have hnext:restV (ps.take (i+1)) d.v=restV (ps.take i) d.v-min (restV (ps.take i) d.v) p0.2:=by
  obtain ⟨h1,h2⟩:=List.getElem?_eq_some_iff.1 n4
  rw [List.take_succ_eq_append_getElem h1,h2,restV_snoc]
 have hadd:addMany ((quotaL ps d.v).take (i+1)) (List.replicate (arcsG qs cs bs hs d).length 0)=addAll (min (restV (ps.take i) d.v) p0.2) (addMany ((quotaL ps d.v).take i) (List.replicate (arcsG qs cs bs hs d).length 0)) p0.1:=by
  obtain ⟨h1,h2⟩:=List.getElem?_eq_some_iff.1 n3
  rw [List.take_succ_eq_append_getElem h1,h2,addMany_snoc]
 have hmid2:=fun j=>hmid i j _ n3
 dsimp only at hmid2
 have hark:=harc p0 (List.mem_of_getElem? n4)
 have hq2:=(hsm.2 p0 (List.mem_of_getElem? n4))
 obtain ⟨b6,o6,ep,hrd⟩:=hrp i _ hx
 rw [show encPV es[i]=[.slice a p0.1.length c,int p0.2] by unfold encPV; rw [e1,e2]] at hrd
 have r0:rdc τp b6 (o6+i*2)=some (.slice a p0.1.length c):=hrd.get0
 have r1:rdc τp b6 (o6+i*2+1)=some (int p0.2):=hrd.get (j:=1) rfl
 clear hrd
 generalize addMany ((quotaL ps d.v).take i) (List.replicate (arcsG qs cs bs hs d).length 0)=P0 at hmid2 hadd
 obtain ⟨_,_,ea,hra⟩:=hIa.val Eng.encI_len
 simp only [Value.slice.injEq] at ea
 obtain ⟨rfl,_,rfl⟩:=ea
 generalize restV (ps.take i) d.v=L0 at hlb n3 hnext hadd hmid2
 generalize hV0:min L0 p0.2=V0 at n3 hnext hadd hmid2
 subst ep;refine Abo ?_;refine Aev ?_;refine Acf ?_;refine EX ?_;refine Adt ?_
 focus ((rw [hV0]))
 refine BA [2,3,4,14,16,17,18,19] (0:Nat) (fun j=>j≤p0.1.length) (fun j=>[(20,int j)]) (fun j=>[sng bz (.cells (ints (addAll V0 P0 (p0.1.take j))) 3 (0,0)),sng b4 (.cells #[.bool false,int 0,.slice none 0 0,.slice none 0 0] 42 (0,0)),emp,emp,emp]) (fun j=>p0.1.length-j) pickZ (by omega) covZ selZ ?_
 rintro j hj
 by_cases hlt:j<p0.1.length
 rotate_left
 ·rw [List.take_of_length_le (by omega),← hadd]
  refine Agc ?_;refine Afp ?_;refine AU ?_;refine Abv ?_;refine Ac3 ?_;refine CP ?_;refine Adb ?_
  refine AT (i+1) (by omega) (by omega) ?_ selZ
  rw [hnext];exact covZ
 have hy:=List.getElem?_eq_getElem hlt
 have hm1:=hmid2 j
 have hm2:=hmid2 (j+1)
 rw [List.take_succ_eq_append_getElem hlt,addAll_snoc] at hm2
 have hxk:=hark _ (List.getElem_mem hlt)
 have hta:addAll V0 P0 (p0.1.take (j+1))=addP V0 (addAll V0 P0 (p0.1.take j)) p0.1[j]:=by rw [List.take_succ_eq_append_getElem hlt,addAll_snoc]
 have hkx:(ksOf p0.1)[j]?=some ((p0.1[j].k:Nat):Int):=by unfold ksOf; rw [List.getElem?_map,hy]; rfl
 obtain ⟨b7,o7,ep,gk⟩:=hra.int hkx
 generalize addAll V0 P0 (p0.1.take j)=P at hm1 hm2 hta
 generalize p0.1[j]=y at hy hm2 hxk hta gk hkx
 obtain ⟨s4,s5⟩:=part_step hcapb hm1.1 hm1.2 hm2.1 hxk
 have hPl:=hm1.2
 subst ep;refine Agc ?_;refine Afp ?_;refine AU ?_;refine Aa9 ?_;refine Ac8 ?_;refine Aer ?_;refine Acb ?_;refine Afn ?_;refine CB ?_;refine BR ?_;refine DA ?_; rintro _ _ ⟨rfl,rfl⟩;refine Ag5 ?_
 refine AT (j+1) (by omega) (by omega) covZ ?_
 rw [hta];exact selZ
theorem sameAnswer_spec (σ1 σ2 σ3 σ4 σ5 σ6:PH) (a a':Value) (acc:Bool) (vol:Int) (ss:List Sh) (c:Cu) (h1:AnsAt σ1 σ2 σ3 a acc vol ss c) (h2:AnsAt σ4 σ5 σ6 a' acc vol ss c) (hl:ss.length≤1000000) (hc:c.length≤1000000) :
  Ans Tryz.prog (fv 20) [a,a'] [σ1,σ2,σ3,σ4,σ5,σ6] (fun r=>r=.bool true):=by
 obtain ⟨p1,k1,L,p2,k2,rfl,hS,hC,hL⟩:=h1
 obtain ⟨p3,k3,L',p4,k4,rfl,hS',hC',hL'⟩:=h2
 have hLl:L.length≤1000000:=by have:=congrArg List.length hL; rw [List.length_map] at this; omega
 have hsc:=exSameCut_spec σ2 σ3 σ5 σ6 p2 p4 k2 k4 L L' hC hC' (by rw [hL,hL']) hLl
 have hss:=sameShips_spec σ1 σ4 p1 p3 k1 k3 ss hS hS' hl
 refine spec_in (cap:=[]) Tryz.func20 rfl rfl Tryz.ntmps20 rfl envZ (fun N β=>?_)
 refine Aa ?_;refine BH (BO rfl) rfl rfl rfl ?_;rintro _ _ ⟨b1,rfl,rfl⟩;refine AW (ρ:=sng b1 _) takeZ ?_
 have ca:=rdB b1 42 [.bool acc,int vol,.slice p1 ss.length k1,.slice p2 L.length k2]
 have ca0:=rdC ca 0
 have ca1:=rdC ca 1
 have ca2:=rdC ca 2
 have ca3:=rdC ca 3
 refine BH (BO rfl) rfl rfl rfl ?_;rintro _ _ ⟨b2,rfl,rfl⟩;refine AW (ρ:=sng b2 _) takeZ ?_
 have cb:=rdB b2 42 [.bool acc,int vol,.slice p3 ss.length k3,.slice p4 L'.length k4]
 have cb0:=rdC cb 0
 have cb1:=rdC cb 1
 have cb2:=rdC cb 2
 have cb3:=rdC cb 3
 cases acc with
 | true =>
  refine Aef ?_;refine FK ?_;refine Abj ?_;refine CQ ?_;refine Ad4 ?_
  rw [show (true == true)=true from rfl]
  skip
  refine BC hss rfl rfl rdZ rfl rfl ?_;rintro _ rfl;refine Ad4 ?_;refine BC hsc rfl rfl rdZ rfl rfl ?_;rintro _ rfl;refine Acs ?_;exact A3 ⟨rfl,rfl⟩
 | false =>
  refine Aef ?_;refine FK ?_;refine Abj ?_;refine CQ ?_;refine Ad4 ?_
  rw [show (false == false)=true from rfl]
  skip
  refine BC hss rfl rfl rdZ rfl rfl ?_;rintro _ rfl;refine Ad4 ?_;refine BC hsc rfl rfl rdZ rfl rfl ?_;rintro _ rfl;refine Acs ?_;exact A3 ⟨rfl,rfl⟩
end Go.Proofs.YtjehnjhkcmobcaaGreat
