/- Texts of this proof, one after the other; no conditions. -/
import Derived.Test.YtahbngakckbenaaGreatDoorWB8
import Derived.Test.YtahbngakckbenaaGreatDoorWB2
import Derived.Test.YtahbngakckbenaaGreatDoorWB6
import Derived.Test.YtahbngakckbenaaGreatDoorWB3
import Derived.Test.YtahbngakckbenaaGreatDoorWB1
import Derived.Test.YtahbngakckbenaaGreatDoorWB5
import Derived.Test.YtahbngakckbenaaGreatDoorWB4
set_option linter.all false
/- A receiver hears a segment. -/
namespace Go.Proofs.YtahbngakckbenaaGreatDoor
open Go.Eng Go.Step
set_option maxRecDepth 100000
set_option maxHeartbeats 64000000
theorem rcvHear_spec {ρ:PH} {se:Int} {d:List UInt8} {K:Iv} {p:Option Addr} {c:Nat} {x:Sg} (hv:SpAt ρ (.slice p K.length c) K) (hK:InI d.length K) (hn1:1≤d.length) (hn:d.length≤990) (hse:0≤se∧se≤1099511627776) (hx:okG d.length x) :
    Eng.Spec Tryz.prog (fv 17) [.agg #[int se,int (totR d K),.slice p K.length c,str (datR d K)],.agg #[int 1,int se,int x.sr,int (x.a:Int),int (d.length:Int),.bool (decide (1≤x.sr)),str (cutD d x.a x.b),.slice none 0 0]] [ρ] [] (fun r H'=>∃ p1 c1 σ1,OwnS 49 2 (.slice p1 (unionI K [((x.a:Int),(x.b:Int))]).length c1) (unionI K [((x.a:Int),(x.b:Int))]).length ((unionI K [((x.a:Int),(x.b:Int))]).flatMap encS) σ1 ∧
      ((¬ 1≤x.sr∧r=.tuple #[.agg #[int se,int (d.length:Int),.slice p1 (unionI K [((x.a:Int),(x.b:Int))]).length c1,str (maskD d (unionI K [((x.a:Int),(x.b:Int))]))],.slice none 0 0,int 0]∧H'=[σ1]) ∨
       (1≤x.sr∧∃ p2 c2 σ2 bn,OwnS 49 2 (.slice p2 (unionI K [((x.a:Int),(x.b:Int))]).length c2) (unionI K [((x.a:Int),(x.b:Int))]).length ((unionI K [((x.a:Int),(x.b:Int))]).flatMap encS) σ2∧r=.tuple #[.agg #[int se,int (d.length:Int),.slice p1 (unionI K [((x.a:Int),(x.b:Int))]).length c1,str (maskD d (unionI K [((x.a:Int),(x.b:Int))]))],.slice (some ⟨bn,0,none⟩) 1 1,int 0]∧H'=[sng bn (.cells #[int 2,int se,int x.sr,int 0,int (d.length:Int),.bool false,str [],.slice p2 (unionI K [((x.a:Int),(x.b:Int))]).length c2] 37 (0,0)),σ2,σ1]))):=by
  have hc:=rcvChk_spec hv hK hn1 hn hse
  have hsg:=segChk_spec hx (by omega) hse
  have ht:totR d K = -1∨totR d K=(d.length:Int):=by unfold totR; split <;> simp
  have hd:K≠[]→datR d K=maskD d K:=fun h=>if_neg h
  have hsu:=rcvSuits_spec (se:=se) (tot:=totR d K) (dat:=datR d K) (ck:=decide (1≤x.sr)) hv hK hn hx hd ht
  have hme:=rcvMerged_spec (se:=se) (tot:=totR d K) (dat:=datR d K) (ck:=decide (1≤x.sr)) hv hK hn hx
  have hcd:=copy_dat d K
  have hcp:=copy_piece (d:=d) (K:=K) hx.1 hx.2.1
  have hcp:=hcp.resolve_right (fun h=>h hK.1)
  obtain ⟨hKU,_,hKne⟩:=hK.put (a:=(x.a:Int)) (b:=(x.b:Int)) (by omega) (by have:=hx.1; omega) (by have:=hx.2.1; omega)
  have hdl:=datR_le d K
  have hml:=maskD_len d K
  have hml2:=maskD_len d (unionI K [((x.a:Int),(x.b:Int))])
  have hKUl:=hKU.len (by omega)
  obtain ⟨h1,h2,h3,h4,h5⟩:=hx
  have hl:=cutD_len (Nat.le_of_lt h1) h2
  generalize hck:decide (1≤x.sr)=ck at hsg hsu hme ⊢
  refine spec_in (cap:=[]) Tryz.func17 rfl rfl Tryz.ntmps17 rfl envZ (fun N β=>?_)
  refine Aa ?_;refine BK (BM rfl) rfl rfl rfl ?_;rintro _ _ ⟨b2,rfl,rfl⟩;refine BK (BM rfl) rfl rfl rfl ?_;rintro _ _ ⟨b3,rfl,rfl⟩;refine AZ (ρ:=sng b3 _) takeZ ?_
  have cx:=rdB b3 37 [int 1,int se,int x.sr,int (x.a:Int),int (d.length:Int),.bool ck,str (cutD d x.a x.b),.slice none 0 0]
  have cx0:=rdC cx 0
  have cx1:=rdC cx 1
  have cx2:=rdC cx 2
  have cx3:=rdC cx 3
  have cx4:=rdC cx 4
  have cx5:=rdC cx 5
  have cx6:=rdC cx 6
  have cx7:=rdC cx 7
  refine A6 ?_; rintro _ _ ⟨b,rfl,rfl⟩;refine Ac7 ?_
  revert b; intro b4
  refine AW hc rfl rfl rdZ rfl rfl ?_;rintro _ rfl;refine BJ ?_;refine AB ?_;refine AV ?_;refine AW hsg rfl rfl rdZ rfl rfl ?_;rintro _ rfl;refine Ac2 ?_;refine Ab6 ?_;refine AV ?_;refine AW hsu rfl rfl rdZ rfl rfl ?_;rintro _ rfl;refine Abm ?_;refine Aaz ?_;refine AV ?_;refine B9 hme rfl rfl rdZ rfl rfl ?_;rintro _ σ1 ⟨p1,c1,rfl,hO1⟩;refine Aa1 ?_;refine Aao ?_
  refine BK (GX rfl rfl rfl rfl rfl rfl (by omega)) rfl rfl rfl ?_
  rintro _ _ ⟨b9,rfl,rfl⟩;refine Ab1 ?_;refine Aae ?_
  refine BK (FW (o:=0) (dl:=d.length) (l:=datR d K) rfl rfl rfl rfl takeZ (by rw [List.size_toArray,rowS_len,List.length_replicate,Nat.zero_add]; exact Nat.min_le_right _ _)) rfl rfl rfl ?_
  rintro _ _ ⟨rfl,rfl⟩;rw [List.toList_toArray,hcd];refine Aat ?_
  have ec:cutP (some ⟨b9,0,none⟩) d.length x.a 1=some ⟨b9,x.a,none⟩:=cutP_one (by omega)
  refine BD (.q 0 (.q 1 (.q 2 (.q 3 (.q 4 (.q 5 (.l 6 .b .nil))))))) [] rfl (by kernel_rfl) Sel.nil ?_
  refine Abp ?_;refine C7 ?_;refine Aaj ?_
  refine BL (a_b rfl (FW (b:=b9) (o:=x.a) (dl:=d.length-x.a) (dc:=d.length-x.a) (l:=cutD d x.a x.b) (by show some (Value.slice (cutP (some ⟨b9,0,none⟩) d.length x.a 1) _ _)=_; rw [ec]) rfl rfl rfl takeZ (by
    rw [List.size_toArray,rowS_len,hml]
    have:Nat.min (cutD d x.a x.b).length (d.length-x.a)≤d.length-x.a:=Nat.min_le_right _ _
    omega)) rfl rfl rfl (fun _ _ _ w hw=>hw.sel Sel.nil) ?_)
  rintro _ _ ⟨rfl,rfl⟩;rw [List.toList_toArray,hcp];refine A7 ?_;refine AD ?_
  refine BD (.q 0 (.q 1 (.p 2 (.p 3 (.p 4 (.q 5 (.l 6 .b (.q 7 (.l 8 .b (.q 9 (.l 10 .b .nil))))))))))) [sng b9 _] rfl (by kernel_rfl) selZ ?_
  refine Aaj ?_;refine C0 ?_;refine C0 ?_
  refine F6 rfl (q_b2s (l:=maskD d (unionI K [((x.a:Int),(x.b:Int))])) (b:=b9) (o:=0) (by rw [hml2]; exact rfl) (cells_own memZ) rfl rfl rfl) rfl rfl rfl ?_
  refine AU ?_;refine CO ?_; rintro _ _ ⟨rfl,rfl⟩;refine AU ?_;refine CO ?_; rintro _ _ ⟨rfl,rfl⟩;refine AU ?_;refine CO ?_; rintro _ _ ⟨rfl,rfl⟩;refine A7 ?_;refine Aba ?_;refine BC ?_;refine AE ?_;refine AZ (ρ:=sng b2 (.cells #[int se,int (d.length:Int),.slice p1 (unionI K [((x.a:Int),(x.b:Int))]).length c1,str (maskD d (unionI K [((x.a:Int),(x.b:Int))]))] 41 (0,0))) takeZ ?_
  have cr:=rdB b2 41 [int se,int (d.length:Int),.slice p1 (unionI K [((x.a:Int),(x.b:Int))]).length c1,str (maskD d (unionI K [((x.a:Int),(x.b:Int))]))]
  have cr0:=rdC cr 0
  have cr1:=rdC cr 1
  cases ck with
  | false =>
    have hs:¬ 1≤x.sr:=of_decide_eq_false hck
    refine A5 rfl ?_;refine Aaz ?_;refine AX ?_; rintro _ _ ⟨rfl,rfl⟩;refine Aai ?_;exact AK (H':=[σ1]) (resSEE (b1:=b4) (T:=41) (v1:=[int se,int (d.length:Int),.slice p1 (unionI K [((x.a:Int),(x.b:Int))]).length c1,str (maskD d (unionI K [((x.a:Int),(x.b:Int))]))]) rfl rfl rfl rfl rfl rfl (cells_own memZ)) rsubZ selZ ⟨p1,c1,σ1,hO1,.inl ⟨hs,rfl,rfl⟩⟩
  | true =>
    have hs:1≤x.sr:=of_decide_eq_true hck
    refine Aaf ?_;refine AD ?_
    refine C3 (X:=Nat × Option Addr × Nat × PH) [2,4] (fun z=>OwnS 49 2 (.slice z.2.1 (unionI K [((x.a:Int),(x.b:Int))]).length z.2.2.1) (unionI K [((x.a:Int),(x.b:Int))]).length ((unionI K [((x.a:Int),(x.b:Int))]).flatMap encS) z.2.2.2) (fun z=>[(10,.pointer (some ⟨z.1,0,none⟩)),(11,int 0)]) (fun z=>[sng z.1 (.cells #[int 2,int se,int x.sr,int 0,int (d.length:Int),.bool false,str [],.slice z.2.1 (unionI K [((x.a:Int),(x.b:Int))]).length z.2.2.1] 37 (0,0)),z.2.2.2,sng b4 (.cells #[int 0,int 0,.slice none 0 0,str []] 41 (0,0)),σ1]) pickZ ?_ ?_
    · refine BD (.q 0 (.q 1 (.q 2 (.q 3 (.q 4 (.q 5 (.q 6 (.l2 7 .e (.l2 8 .e (.q 9 (.q 10 (.p 11 (.l 12 .e (.l 13 .b (.q 14 .nil)))))) 12 .e (.l 8 .e (.q 9 (.q 10 (.p 11 (.l 13 .b (.q 14 .nil))))))) 12 .e (.l 7 .e (.l 8 .e (.q 9 (.q 10 (.p 11 (.l 13 .b (.q 14 .nil))))))))))))))) [] rfl (by kernel_rfl) Sel.nil ?_
      repeat' (first
        | (refine AJ ?_)
        | (refine AS ?_)
        | (refine AU ?_)
        | (refine CZ ?_ ?_)
        | (refine BZ ?_; rintro _ _ ⟨b,rfl,rfl⟩)
        | fail)
      · refine BO rfl (cloneSnSp_spec σ1 _ (unionI K [((x.a:Int),(x.b:Int))]) hO1.at (by omega)) rfl rfl rdZ rfl rfl ?_
        rintro _ _ ⟨σ2,hO2,rfl⟩
        obtain ⟨p2,c2,rfl⟩:=hO2.form
        repeat' (first
          | (refine CZ ?_ ?_)
          | (refine BZ ?_; rintro _ _ ⟨b,rfl,rfl⟩)
          | fail)
        · refine CS rfl (segClaim_spec (se:=se) (sr:=x.sr) (n:=d.length) hO2.at hKU hn1 (by omega) hs h5 hse) rfl rfl rdZ rfl rfl ?_
          rintro _ rfl;refine AJ ?_;refine Aau ?_;refine BV ?_; rintro _ _ ⟨b,rfl,rfl⟩
          revert b; intro b10
          refine BL ?_;refine' CG rfl _ rfl rfl _ _
          rotate_left
          · apply A9; exact rfl; exact rfl; exact takeZ; exact oneZ; exact rfl; exact rfl
          · rintro _ _ ⟨_,rfl⟩ w hw; exact hw.sel Sel.nil
          rintro _ _ ⟨rfl,rfl⟩;refine Aam ?_
          skip
          exact BB (b10,p2,c2,σ2) hO2 covZ selZ
        · revert b; intro b10
          refine BL (CS rfl (segClaim_spec (se:=se) (sr:=x.sr) (n:=d.length) hO2.at hKU hn1 (by omega) hs h5 hse) rfl rfl rdZ rfl rfl ?_)
          rintro _ rfl;refine AJ ?_;refine Aa8 ?_;refine' CG rfl _ rfl rfl _ _
          rotate_left
          · apply A9; exact rfl; exact rfl; exact takeZ; exact oneZ; exact rfl; exact rfl
          · rintro _ _ ⟨_,rfl⟩ w hw; exact hw.sel Sel.nil
          rintro _ _ ⟨rfl,rfl⟩;refine Aam ?_
          skip
          exact BB (b10,p2,c2,σ2) hO2 covZ selZ
      · revert b; intro b10
        refine BL (BO rfl (cloneSnSp_spec σ1 _ (unionI K [((x.a:Int),(x.b:Int))]) hO1.at (by omega)) rfl rfl rdZ rfl rfl ?_)
        rintro _ _ ⟨σ2,hO2,rfl⟩
        obtain ⟨p2,c2,rfl⟩:=hO2.form
        skip
        refine BL (CS rfl (segClaim_spec (se:=se) (sr:=x.sr) (n:=d.length) hO2.at hKU hn1 (by omega) hs h5 hse) rfl rfl rdZ rfl rfl ?_)
        rintro _ rfl;refine AJ ?_;refine Aa8 ?_;refine' CG rfl _ rfl rfl _ _
        rotate_left
        · apply A9; exact rfl; exact rfl; exact takeZ; exact oneZ; exact rfl; exact rfl
        · rintro _ _ ⟨_,rfl⟩ w hw; exact hw.sel Sel.nil
        rintro _ _ ⟨rfl,rfl⟩;refine Aam ?_
        skip
        exact BB (b10,p2,c2,σ2) hO2 covZ selZ
    rintro ⟨b10,p2,c2,σ2⟩ hO2
    dsimp only at hO2 ⊢
    refine AZ (ρ:=sng b10 (.cells #[int 2,int se,int x.sr,int 0,int (d.length:Int),.bool false,str [],.slice p2 (unionI K [((x.a:Int),(x.b:Int))]).length c2] 37 (0,0))) takeZ ?_
    have cp:=rdB b10 37 [int 2,int se,int x.sr,int 0,int (d.length:Int),.bool false,str [],.slice p2 (unionI K [((x.a:Int),(x.b:Int))]).length c2]
    refine Aco ?_;refine AD ?_
    refine BD (.q 0 (.p 1 (.l2 2 .e (.l 3 .b (.q 4 (.q 5 .nil))) 3 .b (.l 2 .e (.q 4 (.q 5 .nil)))))) [] rfl (by kernel_rfl) Sel.nil ?_
    have hfl:Flat [.agg #[int 2,int se,int x.sr,int 0,int (d.length:Int),.bool false,str [],.slice p2 (unionI K [((x.a:Int),(x.b:Int))]).length c2]] [int 2,int se,int x.sr,int 0,int (d.length:Int),.bool false,str [],.slice p2 (unionI K [((x.a:Int),(x.b:Int))]).length c2]:=Flat.agg (ws:=[int 2,int se,int x.sr,int 0,int (d.length:Int),.bool false,str [],.slice p2 (unionI K [((x.a:Int),(x.b:Int))]).length c2]) Flat.nil
    repeat' (first
      | (refine B8 ?_)
      | (refine DS ?_)
      | (refine CZ ?_ ?_)
      | fail)
    · refine a_e rfl (B6 (cs:=[int 2,int se,int x.sr,int 0,int (d.length:Int),.bool false,str [],.slice p2 (unionI K [((x.a:Int),(x.b:Int))]).length c2]) rfl rfl rfl rfl rfl oneZ hfl rfl) rfl rfl rfl (by rintro _ _ ⟨b,rfl,rfl⟩ w hw; exact hw.tail) ?_
      rintro _ _ ⟨bn,rfl,rfl⟩
      skip
      refine BL ?_;refine' CG rfl _ rfl rfl _ _
      rotate_left
      · apply A9; exact rfl; exact rfl; exact takeZ; exact oneZ; exact rfl; exact rfl
      · rintro _ _ ⟨_,rfl⟩ w hw; exact hw.sel Sel.nil
      rintro _ _ ⟨rfl,rfl⟩;refine Abk ?_
      skip
      exact AK (H':=[sng bn (.cells #[int 2,int se,int x.sr,int 0,int (d.length:Int),.bool false,str [],.slice p2 (unionI K [((x.a:Int),(x.b:Int))]).length c2] 37 (0,0)),σ2,σ1]) (resSEE (b1:=b4) (T:=41) (v1:=[int se,int (d.length:Int),.slice p1 (unionI K [((x.a:Int),(x.b:Int))]).length c1,str (maskD d (unionI K [((x.a:Int),(x.b:Int))]))]) rfl rfl rfl rfl rfl rfl (cells_own memZ)) rsubZ selZ ⟨p1,c1,σ1,hO1,.inr ⟨hs,p2,c2,σ2,bn,hO2,rfl,rfl⟩⟩
    · refine' CG rfl _ rfl rfl _ _
      rotate_left
      · apply A9; exact rfl; exact rfl; exact takeZ; exact oneZ; exact rfl; exact rfl
      · rintro _ _ ⟨_,rfl⟩ w hw; exact hw.sel Sel.nil
      rintro _ _ ⟨rfl,rfl⟩
      skip
      refine BL (a_e rfl (B6 (cs:=[int 2,int se,int x.sr,int 0,int (d.length:Int),.bool false,str [],.slice p2 (unionI K [((x.a:Int),(x.b:Int))]).length c2]) rfl rfl rfl rfl rfl oneZ hfl rfl) rfl rfl rfl (by rintro _ _ ⟨b,rfl,rfl⟩ w hw; exact hw.tail) ?_)
      rintro _ _ ⟨bn,rfl,rfl⟩;refine Abk ?_
      skip
      exact AK (H':=[sng bn (.cells #[int 2,int se,int x.sr,int 0,int (d.length:Int),.bool false,str [],.slice p2 (unionI K [((x.a:Int),(x.b:Int))]).length c2] 37 (0,0)),σ2,σ1]) (resSEE (b1:=b4) (T:=41) (v1:=[int se,int (d.length:Int),.slice p1 (unionI K [((x.a:Int),(x.b:Int))]).length c1,str (maskD d (unionI K [((x.a:Int),(x.b:Int))]))]) rfl rfl rfl rfl rfl rfl (cells_own memZ)) rsubZ selZ ⟨p1,c1,σ1,hO1,.inr ⟨hs,p2,c2,σ2,bn,hO2,rfl,rfl⟩⟩
theorem segO_len (d:List UInt8) (o:Option Sg):(segO d o).length=8:=by cases o <;> rfl
theorem segO_ones (d:List UInt8) (o:Option Sg):∀ v∈segO d o,v.oneCell'=true:=by
 cases o with
 | none =>
  intro v hv
  simp only [segO,zSeg,List.mem_cons,List.not_mem_nil,or_false] at hv
  rcases hv with rfl|rfl|rfl|rfl|rfl|rfl|rfl|rfl <;> rfl
 | some x=>exact encG_ones 0 d x
theorem trHear_spec {ρ:PH} {se:Int} {d:List UInt8} {K K':Iv} {p:Option Addr} {c:Nat} {x:Sg} (hv:SpAt ρ (.slice p K.length c) K) (hK:InI d.length K) (hn1:1≤d.length) (hn:d.length≤990) (hse:0≤se∧se≤1099511627776) (hx:okG d.length x) (hU:unionI K [((x.a:Int),(x.b:Int))]=K') (hne:K'≠[]) :
    Eng.Spec Tryz.prog (fv 17) [.agg #[int se,int (totR d K),.slice p K.length c,str (datR d K)],.agg #[int 1,int se,int x.sr,int (x.a:Int),int (d.length:Int),.bool (decide (1≤x.sr)),str (cutD d x.a x.b),.slice none 0 0]] [ρ] [] (fun r H'=>∃ p1 c1 σ1,OwnS 49 2 (.slice p1 K'.length c1) K'.length (K'.flatMap encS) σ1 ∧
      ((¬ 1≤x.sr∧r=.tuple #[.agg #[int se,int (totR d K'),.slice p1 K'.length c1,str (datR d K')],.slice none 0 0,int 0]∧H'=[σ1]) ∨
       (1≤x.sr∧∃ p2 c2 σ2 bn,OwnS 49 2 (.slice p2 K'.length c2) K'.length (K'.flatMap encS) σ2∧r=.tuple #[.agg #[int se,int (totR d K'),.slice p1 K'.length c1,str (datR d K')],.slice (some ⟨bn,0,none⟩) 1 1,int 0]∧H'=[sng bn (.cells #[int 2,int se,int x.sr,int 0,int (d.length:Int),.bool false,str [],.slice p2 K'.length c2] 37 (0,0)),σ2,σ1]))):=by
  subst hU
  have e1:totR d (unionI K [((x.a:Int),(x.b:Int))])=(d.length:Int):=if_neg hne
  have e2:datR d (unionI K [((x.a:Int),(x.b:Int))])=maskD d (unionI K [((x.a:Int),(x.b:Int))]):=if_neg hne
  rw [e1,e2];exact rcvHear_spec hv hK hn1 hn hse hx
def DlvI (P:Par) (t0 lr lw lt n:Int) (T:Ss) (s1:Ss):Option Sg→Prop
 | none=>s1=T
 | some x=>okG P.d.length x∧SI P t0 s1 n lr lw lt∧SI P t0 (dlv1 P s1 x) n lr lw lt∧rcOK P (dlv1 P s1 x)∧s1.now=n∧(dlv1 P s1 x).now=n∧T=dlvM P (dlv1 P s1 x).dat.fr.length (dlv1 P s1 x)∧(0≤s1.dis∧s1.dis+s1.dat.fr.length+1≤1152921504606846976)∧n≤1099511627776
theorem trGetO0_spec {P:Par} {t0:Int} {s T:Ss} {pp pq:Option Addr} {cp cq:Nat} {M:Mm} {σ:S6} {lr lw lt n:Int} (hP:okP P t0) (hS:SI P t0 s n lr lw lt) (hrc:rcOK P s) (hnn:s.now=n) (hn:0≤n) (hl:lr≤n+P.c.g) (hdis:0≤s.dis∧s.dis+s.dat.fr.length≤1152921504606846976) (hT:T=dlvM P s.dat.fr.length s) (hM:MOK P s M σ) (bs:Nat) :
  Eng.Spec Tryz.prog (fv 188) [.pointer (some ⟨bs,0,none⟩),.pointer (some ⟨bs,0,none⟩)] [] [sesB pp pq cp cq P s M bs,σ.a] (fun r H'=>∃ o s1 M1 ρ1,DlvI P t0 lr lw lt n T s1 o∧MOK P s1 M1 { σ with a:=ρ1 }∧(o.isSome=true→s1.dat.fr.length+1=s.dat.fr.length)∧r=.tuple #[.agg (segO P.d o).toArray,.bool o.isSome]∧H'=[sesB pp pq cp cq P s1 M1 bs,ρ1]):=by
 subst hnn;refine (trGet0_spec hP hS hrc hn hl hM bs).mono ?_;rintro r H' (⟨h1,h2,h3⟩|⟨x,l,M',ρ',h1,h2,h3,h4,h5,h6,h7,h8,h9,h10,h11⟩)
 ·exact ⟨none,s,M,σ.a,(h1 _).symm.trans hT.symm,hM,(fun h=>by cases h),h2,h3⟩
 ·exact ⟨some x,_,M',ρ',⟨h2,h4,h5,h6,rfl,h7,hT.trans h8,⟨hdis.1,by dsimp only; omega⟩,h9⟩,h10,fun _=>h3.symm,h1,h11⟩
structure Dl where
 b:Nat
 p1:Option Addr
 c1:Nat
 k:PH
 pn:Option Addr
 m:Nat
 n:PH
 p2:Option Addr
 c2:Nat
 r:PH
theorem MOK.ent1 {P:Par} {s:Ss} {M:Mm} {σ:S6} (h:MOK P s M σ) {cr:Ch} {dr er sr:Int} {ol:List (Int × Int × Iv)} {G':List (Frm × Value)} {O':List ((Int × Int × Iv) × Value)} {p' po p2:Option Addr} {c' co c2:Nat} {σ' σo:PH} {C:Iv} (hv:SpAt σ.f (.slice p2 C.length c2) C) (e1:G'.map (·.1)=cr.fr) (e2:∀ f∈G',f∈M.G∨(f.2=.slice p2 C.length c2∧f.1.g=.rep sr C)) (hO:OwnS 295 10 (.slice p' G'.length c') G'.length (G'.flatMap (encF P.d)) σ') (e3:O'.map (·.1)=ol) (e4:∀ y∈O',y∈M.O∨(y.2=.slice p2 C.length c2∧y.1.2=(sr,C))) (hO2:OwnS 39 9 (.slice po O'.length co) O'.length (O'.flatMap (encR1 P.d)) σo) :
  MOK P { s with rep:=cr,dis:=dr,ent:=er,out1:=ol } { M with G:=G',p1:=p',c1:=c',O:=O',p3:=po,c3:=co } { σ with b:=σ',d:=σo }:=
 ⟨h.d,h.dm,h.d1,hO,e1,fun f hf=>(e2 f hf).elim (fun k=>h.r1 f k) (fun k=>⟨sr,C,p2,c2,k.2,k.1,hv⟩),h.o0,hO2,e3,fun y hy=>(e4 y hy).elim (fun k=>h.o2 y k) (fun k=>⟨p2,c2,by rw [k.2]; exact k.1,by rw [k.2]; exact hv⟩),h.w,h.a,h.k⟩
theorem MOK.heard {P:Par} {s:Ss} {M:Mm} {σ:S6} (h:MOK P s M σ) {γ:PH} {K2:Iv} {p1:Option Addr} {c1:Nat} (g:PH.sub σ.f γ) (hk:SpAt γ (.slice p1 K2.length c1) K2) :
  MOK P { s with K:=K2 } { M with p5:=p1,c5:=c1 } { σ with f:=γ }:=
 ⟨h.d,h.dm,h.d1,h.r,h.rm,fun f hf=>(by obtain ⟨sr,C,p,c,k1,k2,k3⟩:=h.r1 f hf; exact ⟨sr,C,p,c,k1,k2,k3.mono g⟩),h.o0,h.o1,h.om,fun y hy=>(by obtain ⟨p,c,k1,k2⟩:=h.o2 y hy; exact ⟨p,c,k1,k2.mono g⟩),h.w,h.a.mono g,hk⟩
theorem MOK.fin {P:Par} {s:Ss} {M:Mm} {σ:S6} (h:MOK P s M σ) (r:Bool) (a:Int):MOK P { s with rcvd:=r,arr:=a } M σ:=⟨h.d,h.dm,h.d1,h.r,h.rm,h.r1,h.o0,h.o1,h.om,h.o2,h.w,h.a,h.k⟩
theorem trDeliver_spec {ρp ρd:PH} {P:Par} {t0:Int} {s:Ss} {pp pq:Option Addr} {cp cq:Nat} {M:Mm} {σ:S6} {lr lw lt n:Int} (hF:FixOK P t0 pp pq cp cq ρp ρd) (hS:SI P t0 s n lr lw lt) (hrc:rcOK P s) (hnn:s.now=n) (hn:0≤n) (hlr:0≤lr) (hl:lr≤n+P.c.g) (hdis:0≤s.dis∧s.dis+s.dat.fr.length≤1152921504606846976) (hM:MOK P s M σ) (bs:Nat) :
  Eng.Spec Tryz.prog (fv 136) [.pointer (some ⟨bs,0,none⟩)] [ρp,ρd] [sesB pp pq cp cq P s M bs,σ.a,σ.b,σ.c,σ.d,σ.e,σ.f] (fun r H'=>r=.tuple #[]∧∃ M' σ',MOK P (dlvM P s.dat.fr.length s) M' σ'∧H'=[sesB pp pq cp cq P (dlvM P s.dat.fr.length s) M' bs,σ'.a,σ'.b,σ'.c,σ'.d,σ'.e,σ'.f]):=by
 have hP:=hF.ok
 have hn1:=hP.n1
 have hn2:=hP.n2
 have hcr:=chkCt_rg hP.hc
 have h2:=hP.h2
 have hg0:=trGetO0_spec (pp:=pp) (pq:=pq) (cp:=cp) (cq:=cq) hP hS hrc hnn hn hl hdis rfl hM bs
 generalize dlvM P s.dat.fr.length s=T at hg0 ⊢
 refine spec_in (cap:=[]) Tryz.func136 rfl rfl Tryz.ntmps136 rfl envZ (fun N β=>?_)
 refine Aar ?_;refine Acw ?_;refine BG hg0 rfl rfl takesZ rdZ rfl rfl ?_;rintro _ _ ⟨o,s1,M1,ρ1,hI,hM1,_,rfl,rfl⟩;refine Aaw ?_;refine A6 ?_; rintro _ _ ⟨b,rfl,rfl⟩
 revert b; intro b2
 refine BR (A9 (vs:=segO P.d o) rfl rfl takeZ (segO_ones _ _) (by rw [segO_len]; rfl) (by rw [segO_len]; rfl)) rfl rfl ?_
 rintro _ _ ⟨rfl,rfl⟩;refine Aaa ?_;refine A8 ?_
 refine BX [0] (X:=Ss × Mm × S6 × Option Sg × Nat) (s1,M1,{ σ with a:=ρ1 },o,b2) (fun z=>DlvI P t0 lr lw lt n T z.1 z.2.2.2.1∧MOK P z.1 z.2.1 z.2.2.1) (fun z=>[(2,.pointer (some ⟨z.2.2.2.2,0,none⟩)),(3,.bool z.2.2.2.1.isSome)]) (fun z=>[sesB pp pq cp cq P z.1 z.2.1 bs,z.2.2.1.a,z.2.2.1.b,z.2.2.1.c,z.2.2.1.d,z.2.2.1.e,z.2.2.1.f,sng z.2.2.2.2 (.cells (segO P.d z.2.2.2.1).toArray 37 (0,0))]) (fun z=>if z.2.2.2.1.isSome=true then z.1.dat.fr.length+1 else 0) pickZ ⟨hI,hM1⟩ covZ selZ ?_
 rintro ⟨s2,M2,σ2,o2,b3⟩ ⟨hI2,hM2⟩
 dsimp only at hI2 hM2 ⊢
 rcases o2 with _|x
 ·obtain rfl:s2=T:=hI2
  refine Aah ?_;refine AE ?_;refine Aay ?_;exact BW (H':=[sesB pp pq cp cq P s2 M2 bs,σ2.a,σ2.b,σ2.c,σ2.d,σ2.e,σ2.f]) (res0 rfl) rsubZ selZ ⟨rfl,M2,σ2,hM2,rfl⟩
 obtain ⟨hxo,hS2,hS3,hr3,hn2',hn3,hT,hd2,hb⟩:=hI2
 repeat refine AD ?_
 refine AA ?_;refine Aax ?_
 repeat refine AD ?_
 refine Aa6 ?_
 repeat refine AD ?_
 refine C3 (X:=Mm × S6) [0,2] (fun z=>MOK P (dlv1 P s2 x) z.1 z.2) (fun _=>[]) (fun z=>[sesB pp pq cp cq P (dlv1 P s2 x) z.1 bs,z.2.a,z.2.b,z.2.c,z.2.d,z.2.e,z.2.f,sng b3 (.cells (segO P.d (some x)).toArray 37 (0,0))]) pickZ ?_ ?_
 rotate_left
 ·rintro ⟨M3,σ3⟩ hM3
  dsimp only at hM3 ⊢
  have hdis3:=dlv1_dis P s2 x
  have hdat3:=dlv1_dat P s2 x
  have hg3:=trGetO0_spec (pp:=pp) (pq:=pq) (cp:=cp) (cq:=cq) hP hS3 hr3 hn3 hn hl ⟨by omega,by rw [hdat3]; omega⟩ hT hM3 bs
  generalize dlv1 P s2 x=s3 at *
  refine Ab6 ?_;refine AE ?_;refine AA ?_;refine A6 ?_; rintro _ _ ⟨b,rfl,rfl⟩;refine AX ?_; rintro _ _ ⟨rfl,rfl⟩;refine AE ?_;refine Ab5 ?_;refine Acw ?_
  revert b; intro b4
  refine BG hg3 rfl rfl takesZ rdZ rfl rfl ?_;rintro _ _ ⟨o4,s4,M4,ρ4,hI4,hM4,hlen4,rfl,rfl⟩;refine Aaw ?_
  refine BR (A9 (vs:=segO P.d o4) rfl rfl takeZ (segO_ones _ _) (by rw [segO_len]; rfl) (by rw [segO_len]; rfl)) rfl rfl ?_
  rintro _ _ ⟨rfl,rfl⟩;refine Aaa ?_
  exact BH (s4,M4,{ σ3 with a:=ρ4 },o4,b4) ⟨hI4,hM4⟩ (by
   dsimp only
   rw [if_pos (show (some x).isSome=true from rfl)]
   split
   ·rename_i ho
    have:=hlen4 ho
    rw [hdat3] at this;omega
   ·omega) covZ selZ
 obtain ⟨F,G,O,p0,p1',p2',p3,p4,p5,p6,c0,c1',c2'',c3,c4,c5,c6⟩:=M2
 have hk2:=hS2.k
 have hen2:=hS2.en
 have hl2:=hS2.dat.lst
 have hl3:=hS2.rep.lst
 have hxo2:=hxo
 obtain ⟨x1,x2,x3,x4,x5⟩:=hxo2
 obtain ⟨hK2,_,hne⟩:=hk2.put (a:=(x.a:Int)) (b:=(x.b:Int)) (by omega) (by omega) (by omega)
 have hhear:=trHear_spec (K':=unionI s2.K [((x.a:Int),(x.b:Int))]) hM2.k hk2 hn1 hn2 (show (0:Int)≤0∧(0:Int)≤1099511627776 by omega) hxo rfl hne
 have hd1:=dlv1_eq P s2 x
 have hA0:¬ 1≤x.sr→dlvA P s2 x={ s2 with K:=unionI s2.K [((x.a:Int),(x.b:Int))] }:=fun h=>if_neg h
 have hA1:1≤x.sr→dlvA P s2 x=enter1 P { s2 with K:=unionI s2.K [((x.a:Int),(x.b:Int))] } s2.now x.sr (unionI s2.K [((x.a:Int),(x.b:Int))]):=fun h=>if_pos h
 have hKA:(dlvA P s2 x).K=unionI s2.K [((x.a:Int),(x.b:Int))]:=by obtain ⟨_,_,_,_,e⟩:=dlvA_frame P s2 x; rw [e]
 generalize hKK:unionI s2.K [((x.a:Int),(x.b:Int))]=K2 at *
 unfold sesB
 dsimp only
 have c31:RdN (sng bs (.cells #[int P.c.g,.slice p0 F.length c0,int s2.dat.sent,int s2.dat.lost,int P.c.g,.slice p1' G.length c1',int s2.rep.sent,int s2.rep.lost,.slice pp P.picks.length cp,int P.limit,.slice pq P.dark.length cq,int s2.ent,int s2.dis,.slice p2' s2.out0.length c2'',.slice p3 O.length c3,int s2.now,int P.c.f,int P.c.t,int P.c.s,int P.c.e,int P.c.r,int P.c.g,int P.c.l,int 0,str P.d,int P.e,int s2.snd.busy,int s2.snd.sr,.slice p4 s2.snd.K.length c4,int s2.snd.due,int s2.snd.st,int 0,int (totR P.d s2.K),.slice p5 s2.K.length c5,str (datR P.d s2.K),.slice p6 s2.wait.length c6,.bool s2.rcvd,int s2.arr,.bool s2.kn,int s2.knAt] 85 (0,0))) bs 31 [int 0,int (totR P.d s2.K),.slice p5 s2.K.length c5,str (datR P.d s2.K)]:=(rdP_sng (xs:=[int P.c.g,.slice p0 F.length c0,int s2.dat.sent,int s2.dat.lost,int P.c.g,.slice p1' G.length c1',int s2.rep.sent,int s2.rep.lost,.slice pp P.picks.length cp,int P.limit,.slice pq P.dark.length cq,int s2.ent,int s2.dis,.slice p2' s2.out0.length c2'',.slice p3 O.length c3,int s2.now,int P.c.f,int P.c.t,int P.c.s,int P.c.e,int P.c.r,int P.c.g,int P.c.l,int 0,str P.d,int P.e,int s2.snd.busy,int s2.snd.sr,.slice p4 s2.snd.K.length c4,int s2.snd.due,int s2.snd.st,int 0,int (totR P.d s2.K),.slice p5 s2.K.length c5,str (datR P.d s2.K),.slice p6 s2.wait.length c6,.bool s2.rcvd,int s2.arr,.bool s2.kn,int s2.knAt]) rfl).rd
 have cx:RdN (sng b3 (.cells (segO P.d (some x)).toArray 37 (0,0))) b3 0 [int 1,int 0,int x.sr,int (x.a:Int),int (P.d.length:Int),.bool (decide (1≤x.sr)),str (cutD P.d x.a x.b),.slice none 0 0]:=rdN_sng (vs:=[int 1,int 0,int x.sr,int (x.a:Int),int (P.d.length:Int),.bool (decide (1≤x.sr)),str (cutD P.d x.a x.b),.slice none 0 0])
 refine A8 ?_
 repeat refine AD ?_
 refine C3 (X:=Dl) [0,2] (fun z=>OwnS 49 2 (.slice z.p1 K2.length z.c1) K2.length (K2.flatMap encS) z.k∧((¬ 1≤x.sr∧z.pn=none∧z.m=0∧z.n=emp∧z.r=emp)∨(1≤x.sr∧z.m=1∧OwnS 49 2 (.slice z.p2 K2.length z.c2) K2.length (K2.flatMap encS) z.r∧∃ bn,z.pn=some ⟨bn,0,none⟩∧z.n=sng bn (.cells #[int 2,int 0,int x.sr,int 0,int (P.d.length:Int),.bool false,str [],.slice z.p2 K2.length z.c2] 37 (0,0))))) (fun z=>[(4,.pointer (some ⟨z.b,0,none⟩)),(5,.slice z.pn z.m z.m),(6,int 0)]) (fun z=>[sng z.b (.cells #[int 0,int (totR P.d K2),.slice z.p1 K2.length z.c1,str (datR P.d K2)] 41 (0,0)),sng bs (.cells #[int P.c.g,.slice p0 F.length c0,int s2.dat.sent,int s2.dat.lost,int P.c.g,.slice p1' G.length c1',int s2.rep.sent,int s2.rep.lost,.slice pp P.picks.length cp,int P.limit,.slice pq P.dark.length cq,int s2.ent,int s2.dis,.slice p2' s2.out0.length c2'',.slice p3 O.length c3,int s2.now,int P.c.f,int P.c.t,int P.c.s,int P.c.e,int P.c.r,int P.c.g,int P.c.l,int 0,str P.d,int P.e,int s2.snd.busy,int s2.snd.sr,.slice p4 s2.snd.K.length c4,int s2.snd.due,int s2.snd.st,int 0,int (totR P.d s2.K),.slice p5 s2.K.length c5,str (datR P.d s2.K),.slice p6 s2.wait.length c6,.bool s2.rcvd,int s2.arr,.bool s2.kn,int s2.knAt] 85 (0,0)),σ2.a,σ2.b,σ2.c,σ2.d,σ2.e,σ2.f,z.k,z.n,z.r,sng b3 (.cells (segO P.d (some x)).toArray 37 (0,0))]) pickZ ?_ ?_
 ·refine BD (.q 0 (.q 1 (.q 2 (.q 3 (.q 4 (.l2 5 .e (.q 6 (.q 7 (.p 8 (.p 9 (.l 10 .e (.l 11 .b (.q 12 (.q 13 .nil)))))))) 10 .e (.l 5 .e (.q 6 (.q 7 (.p 8 (.p 9 (.l 11 .b (.q 12 (.q 13 .nil)))))))))))))) [] rfl (by kernel_rfl) Sel.nil ?_
  repeat' (first
   | (refine AJ ?_)
   | (refine AU ?_)
   | (refine AT ?_)
   | (refine B8 ?_)
   | (refine CZ ?_ ?_)
   | (refine BZ ?_; rintro _ _ ⟨b,rfl,rfl⟩)
   | fail)
  ·refine CY rfl hhear rfl rfl rdZ rfl rfl ?_
   rintro _ _ ⟨p1,c1,σk,hO1,⟨hs,rfl,rfl⟩|⟨hs,p2,c2',σr,bn,hO2,rfl,rfl⟩⟩
   ·refine AJ ?_
    refine Acb ?_;refine BV ?_; rintro _ _ ⟨b,rfl,rfl⟩
    revert b; intro b4
    skip
    refine BL ?_;refine' CG rfl _ rfl rfl _ _
    rotate_left
    ·apply A9; exact rfl; exact rfl; exact takeZ; exact oneZ; exact rfl; exact rfl
    ·rintro _ _ ⟨_,rfl⟩ w hw; exact hw.sel Sel.nil
    rintro _ _ ⟨rfl,rfl⟩;refine Abk ?_
    skip
    refine CB ?_;refine CB ?_;exact BB ⟨b4,p1,c1,σk,none,0,emp,none,0,emp⟩ ⟨hO1,.inl ⟨hs,rfl,rfl,rfl,rfl⟩⟩ covZ selZ
   ·refine AJ ?_
    refine Acb ?_;refine BV ?_; rintro _ _ ⟨b,rfl,rfl⟩
    revert b; intro b4
    skip
    refine BL ?_;refine' CG rfl _ rfl rfl _ _
    rotate_left
    ·apply A9; exact rfl; exact rfl; exact takeZ; exact oneZ; exact rfl; exact rfl
    ·rintro _ _ ⟨_,rfl⟩ w hw; exact hw.sel Sel.nil
    rintro _ _ ⟨rfl,rfl⟩;refine Abk ?_
    skip
    exact BB ⟨b4,p1,c1,σk,some ⟨bn,0,none⟩,1,sng bn _,p2,c2',σr⟩ ⟨hO1,.inr ⟨hs,rfl,hO2,bn,rfl,rfl⟩⟩ covZ selZ
  ·revert b; intro b4
   refine BL (CY rfl hhear rfl rfl rdZ rfl rfl ?_);rintro _ _ ⟨p1,c1,σk,hO1,⟨hs,rfl,rfl⟩|⟨hs,p2,c2',σr,bn,hO2,rfl,rfl⟩⟩
   ·refine AJ ?_
    refine Acb ?_;refine BL ?_;refine' CG rfl _ rfl rfl _ _
    rotate_left
    ·apply A9; exact rfl; exact rfl; exact takeZ; exact oneZ; exact rfl; exact rfl
    ·rintro _ _ ⟨_,rfl⟩ w hw; exact hw.sel Sel.nil
    rintro _ _ ⟨rfl,rfl⟩;refine Abk ?_
    skip
    refine CB ?_;refine CB ?_;exact BB ⟨b4,p1,c1,σk,none,0,emp,none,0,emp⟩ ⟨hO1,.inl ⟨hs,rfl,rfl,rfl,rfl⟩⟩ covZ selZ
   ·refine AJ ?_
    refine Acb ?_;refine BL ?_;refine' CG rfl _ rfl rfl _ _
    rotate_left
    ·apply A9; exact rfl; exact rfl; exact takeZ; exact oneZ; exact rfl; exact rfl
    ·rintro _ _ ⟨_,rfl⟩ w hw; exact hw.sel Sel.nil
    rintro _ _ ⟨rfl,rfl⟩;refine Abk ?_
    skip
    exact BB ⟨b4,p1,c1,σk,some ⟨bn,0,none⟩,1,sng bn _,p2,c2',σr⟩ ⟨hO1,.inr ⟨hs,rfl,hO2,bn,rfl,rfl⟩⟩ covZ selZ
 rintro ⟨b4,p1,c1,σk,pn,m,σn,p2,c2',σr⟩ ⟨hO1,hz⟩
 dsimp only at hO1 hz ⊢
 refine Aco ?_;refine Aab ?_;refine AV ?_;refine Aa2 ?_
 refine BR (CU (vs:=[int 0,int (totR P.d K2),.slice p1 K2.length c1,str (datR P.d K2)]) rfl rfl oneZ rfl takeZ (by show 31+4≤40; omega)) rfl rfl ?_
 rintro _ _ ⟨rfl,rfl⟩
 change JK _ _ _ (sng bs (.cells #[int P.c.g,.slice p0 F.length c0,int s2.dat.sent,int s2.dat.lost,int P.c.g,.slice p1' G.length c1',int s2.rep.sent,int s2.rep.lost,.slice pp P.picks.length cp,int P.limit,.slice pq P.dark.length cq,int s2.ent,int s2.dis,.slice p2' s2.out0.length c2'',.slice p3 O.length c3,int s2.now,int P.c.f,int P.c.t,int P.c.s,int P.c.e,int P.c.r,int P.c.g,int P.c.l,int 0,str P.d,int P.e,int s2.snd.busy,int s2.snd.sr,.slice p4 s2.snd.K.length c4,int s2.snd.due,int s2.snd.st,int 0,int (totR P.d K2),.slice p1 K2.length c1,str (datR P.d K2),.slice p6 s2.wait.length c6,.bool s2.rcvd,int s2.arr,.bool s2.kn,int s2.knAt] 85 (0,0))::_) _ _
 refine ER (ρ:=σ2.f) (σ:=σk) takeZ takeZ (fun γ1 g1 g2=>?_)
 refine ER (ρ:=γ1) (σ:=σr) takeZ takeZ (fun γ g3 g4=>?_)
 have hMh:=MOK.heard hM2 (fun b o h=>g3 b o (g1 b o h)) (SlE.mono hO1.at (fun b o h=>g3 b o (g2 b o h)))
 refine AZ (ρ:=σn) takeZ ?_;refine Ac1 ?_;refine Abw ?_
 refine BX [0,2,44,45] (X:=Nat × Ss × Mm × S6) (0,{ s2 with K:=K2 },⟨F,G,O,p0,p1',p2',p3,p4,p1,p6,c0,c1',c2'',c3,c4,c1,c6⟩,{ σ2 with f:=γ }) (fun z=>z.1≤m∧((z.1=0∧z.2=({ s2 with K:=K2 },⟨F,G,O,p0,p1',p2',p3,p4,p1,p6,c0,c1',c2'',c3,c4,c1,c6⟩,{ σ2 with f:=γ }))∨(z.1=m∧z.2.1=dlvA P s2 x∧MOK P (dlvA P s2 x) z.2.2.1 z.2.2.2))) (fun z=>[(46,int (z.1:Int))]) (fun z=>[sesB pp pq cp cq P z.2.1 z.2.2.1 bs,z.2.2.2.a,z.2.2.2.b,z.2.2.2.c,z.2.2.2.d,z.2.2.2.e,z.2.2.2.f,sng b3 (.cells (segO P.d (some x)).toArray 37 (0,0))]) (fun z=>m-z.1) pickZ ⟨Nat.zero_le _,.inl ⟨rfl,rfl⟩⟩ covZ selZ ?_
 rintro ⟨i,s4,M4,σ4⟩ ⟨hi,hI4⟩
 dsimp only at hi hI4 ⊢
 by_cases hlt:i<m
 ·rcases hz with ⟨_,_,rfl,_,_⟩|⟨hs,rfl,hO2,bn,rfl,rfl⟩
  ·omega
  have hi0:i=0:=by omega
  subst hi0
  rcases hI4 with ⟨_,e⟩|⟨e,_⟩
  rotate_left
  ·omega
  simp only [Prod.mk.injEq] at e
  obtain ⟨rfl,rfl,rfl⟩:=e
  have cn:=rdB bn 37 [int 2,int 0,int x.sr,int 0,int (P.d.length:Int),.bool false,str [],.slice p2 K2.length c2']
  unfold sesB
  dsimp only
  have hol:O.length=s2.out1.length:=by rw [← hM2.om,List.length_map]
  have hr2:SpAt γ (.slice p2 K2.length c2') K2:=SlE.mono hO2.at g4
  have hen:=trEnter1_spec (s:={ s2 with K:=K2 }) (y0:=int P.c.g) (y1:=.slice p0 F.length c0) (y2:=int s2.dat.sent) (y3:=int s2.dat.lost) (y13:=.slice p2' s2.out0.length c2'') (y15:=int s2.now) (y16:=int P.c.f) (y17:=int P.c.t) (y18:=int P.c.s) (y19:=int P.c.e) (y20:=int P.c.r) (y21:=int P.c.g) (y22:=int P.c.l) (y23:=int 0) (y24:=str P.d) (y25:=int P.e) (y26:=int s2.snd.busy) (y27:=int s2.snd.sr) (y28:=.slice p4 s2.snd.K.length c4) (y29:=int s2.snd.due) (y30:=int s2.snd.st) (y31:=int 0) (y32:=int (totR P.d K2)) (y33:=.slice p1 K2.length c1) (y34:=str (datR P.d K2)) (y35:=.slice p6 s2.wait.length c6) (y36:=.bool s2.rcvd) (y37:=int s2.arr) (y38:=.bool s2.kn) (y39:=int s2.knAt) (v:=.slice p2 K2.length c2') (sr:=x.sr) (C:=K2) (t:=s2.now) hF.p hF.pk hF.pl hF.q hF.q0 hcr.2.1 ⟨by dsimp only; omega,by dsimp only; omega⟩ ⟨by dsimp only; omega,by dsimp only; omega⟩ (delM_ok hP { s2 with K:=K2 } s2.now) ⟨by omega,by omega⟩ hM2.r (fun f hf=>by obtain ⟨_,_,_,_,_,e,_⟩:=hM2.r1 f hf; rw [e]; rfl) hM2.rm hS2.rep hlr (Int.le_refl _) (by dsimp only; omega) hM2.o1 hM2.om (by show O.length≤100000; omega) rfl trivial bs
  obtain ⟨cr,dr,er,ol,hE⟩:=enter1_frame P { s2 with K:=K2 } s2.now x.sr K2
  rw [hE] at hen
  dsimp only at hen
  refine Ac8 ?_;refine A6 ?_; rintro _ _ ⟨b,rfl,rfl⟩;refine AX ?_; rintro _ _ ⟨rfl,rfl⟩;refine AE ?_
  revert b; intro b8
  refine BD (.q 0 (.q 1 (.q 2 (.q 3 (.q 4 (.q 5 (.q 6 (.q 7 (.q 8 (.q 9 (.q 10 (.q 11 (.l 12 .b .nil))))))))))))) [] rfl (by kernel_rfl) Sel.nil ?_
  refine Abz ?_;refine Abz ?_;refine AU ?_;refine Aav ?_;refine B8 ?_
  refine BL (CD rfl hen rfl rfl takesZ rdZ rfl rfl (fun _ _ _ w hw=>hw.sel Sel.nil) ?_)
  rintro _ _ ⟨rfl,G',p',c',σ',O',po',co',σo',e1,e2,hO',e3,e4,hO3,rfl⟩;refine A7 ?_;refine Abc ?_
  have hMe:=MOK.ent1 (cr:=cr) (dr:=dr) (er:=er) (sr:=x.sr) (ol:=ol) hMh hr2 e1 e2 hO' e3 e4 hO3
  have hAE:=(hA1 hs).trans hE
  dsimp only at hAE
  exact BH (1,_,_,_) ⟨Nat.le_refl _,.inr ⟨rfl,hAE.symm,by rw [hAE]; exact hMe⟩⟩ (by dsimp only; omega) covZ selZ
 have hx:s4=dlvA P s2 x∧MOK P (dlvA P s2 x) M4 σ4:=by
  rcases hI4 with ⟨h0,e⟩|⟨_,e,h⟩
  ·simp only [Prod.mk.injEq] at e
   obtain ⟨rfl,rfl,rfl⟩:=e
   rcases hz with ⟨hs,_⟩|⟨_,hm,_⟩
   ·rw [hA0 hs]
    exact ⟨rfl,hMh⟩
   ·omega
  ·exact ⟨e,h⟩
 obtain ⟨rfl,hMA⟩:=hx
 rw [hd1];clear hd1 hI4 hMh hA0 hA1
 generalize dlvA P s2 x=sA at *
 obtain ⟨F,G,O,p0,p1,p2,p3,p4,p5,p6,c0,c1,c2,c3,c4,c5,c6⟩:=M4
 obtain ⟨ydat,yrep,yent,ydis,yout0,yout1,ynow,ysnd,yK,ywait,yrcvd,yarr,ykn,yknAt⟩:=sA
 dsimp only at hKA
 subst hKA
 have hco:=rcvComplete_spec (se:=0) hMA.k hK2 hn1 hn2 (show (0:Int)≤0∧(0:Int)≤1099511627776 by omega)
 unfold sesB
 dsimp only at hco ⊢
 have c31:RdN (sng bs (.cells #[int P.c.g,.slice p0 F.length c0,int ydat.sent,int ydat.lost,int P.c.g,.slice p1 G.length c1,int yrep.sent,int yrep.lost,.slice pp P.picks.length cp,int P.limit,.slice pq P.dark.length cq,int yent,int ydis,.slice p2 yout0.length c2,.slice p3 O.length c3,int ynow,int P.c.f,int P.c.t,int P.c.s,int P.c.e,int P.c.r,int P.c.g,int P.c.l,int 0,str P.d,int P.e,int ysnd.busy,int ysnd.sr,.slice p4 ysnd.K.length c4,int ysnd.due,int ysnd.st,int 0,int (totR P.d yK),.slice p5 yK.length c5,str (datR P.d yK),.slice p6 ywait.length c6,.bool yrcvd,int yarr,.bool ykn,int yknAt] 85 (0,0))) bs 31 [int 0,int (totR P.d yK),.slice p5 yK.length c5,str (datR P.d yK)]:=(rdP_sng (xs:=[int P.c.g,.slice p0 F.length c0,int ydat.sent,int ydat.lost,int P.c.g,.slice p1 G.length c1,int yrep.sent,int yrep.lost,.slice pp P.picks.length cp,int P.limit,.slice pq P.dark.length cq,int yent,int ydis,.slice p2 yout0.length c2,.slice p3 O.length c3,int ynow,int P.c.f,int P.c.t,int P.c.s,int P.c.e,int P.c.r,int P.c.g,int P.c.l,int 0,str P.d,int P.e,int ysnd.busy,int ysnd.sr,.slice p4 ysnd.K.length c4,int ysnd.due,int ysnd.st,int 0,int (totR P.d yK),.slice p5 yK.length c5,str (datR P.d yK),.slice p6 ywait.length c6,.bool yrcvd,int yarr,.bool ykn,int yknAt]) rfl).rd
 cases yrcvd with
 | true =>
  have hB:dlvB P ⟨ydat,yrep,yent,ydis,yout0,yout1,ynow,ysnd,yK,ywait,true,yarr,ykn,yknAt⟩=⟨ydat,yrep,yent,ydis,yout0,yout1,ynow,ysnd,yK,ywait,true,yarr,ykn,yknAt⟩:=if_neg (fun h=>by cases h.1)
  rw [hB];refine Aby ?_;refine Ad ?_;refine BC ?_;refine Abf ?_;refine Aa0 ?_;refine Aa3 ?_;refine BI ?_;refine CJ ?_;exact BB (⟨F,G,O,p0,p1,p2,p3,p4,p5,p6,c0,c1,c2,c3,c4,c5,c6⟩,σ4) hMA covZ selZ
 | false =>
  refine Aby ?_;refine Ad ?_;refine Acq ?_;refine Aa2 ?_;refine AV ?_;refine AW hco rfl rfl rdZ rfl rfl ?_;rintro _ rfl
  by_cases hw:yK=[((0:Int),(P.d.length:Int))]
  ·have hB:dlvB P ⟨ydat,yrep,yent,ydis,yout0,yout1,ynow,ysnd,yK,ywait,false,yarr,ykn,yknAt⟩=⟨ydat,yrep,yent,ydis,yout0,yout1,ynow,ysnd,yK,ywait,true,ynow,ykn,yknAt⟩:=if_pos ⟨rfl,hw⟩
   rw [hB,decide_eq_true hw];refine Abr ?_;refine AA ?_;refine Abl ?_;refine Aa5 ?_;refine Aa2 ?_;refine BA ?_; rintro _ _ ⟨rfl,rfl⟩;refine Aa2 ?_;refine BA ?_; rintro _ _ ⟨rfl,rfl⟩;refine AE ?_;refine BI ?_;refine CJ ?_;exact BB (⟨F,G,O,p0,p1,p2,p3,p4,p5,p6,c0,c1,c2,c3,c4,c5,c6⟩,σ4) (MOK.fin hMA true ynow) covZ selZ
  ·have hB:dlvB P ⟨ydat,yrep,yent,ydis,yout0,yout1,ynow,ysnd,yK,ywait,false,yarr,ykn,yknAt⟩=⟨ydat,yrep,yent,ydis,yout0,yout1,ynow,ysnd,yK,ywait,false,yarr,ykn,yknAt⟩:=if_neg (fun h=>hw h.2)
   rw [hB,decide_eq_false hw];refine A4 ?_;refine Aag ?_;refine BI ?_;refine CJ ?_;exact BB (⟨F,G,O,p0,p1,p2,p3,p4,p5,p6,c0,c1,c2,c3,c4,c5,c6⟩,σ4) hMA covZ selZ
theorem hearM_1 {P:Par} {s:Sd} {t sr:Int} {C:Iv} (h:s.st≠1∨sr≠s.sr):hearM P s t sr C=(s,[]):=if_pos h
theorem hearM_2 {P:Par} {s:Sd} {t sr:Int} {C:Iv} (h1:s.st=1) (h2:sr=s.sr) (hU:unionI s.K C=[((0:Int),(P.d.length:Int))]):hearM P s t sr C=({ s with due:=0,st:=2,K:=unionI s.K C },[]):=
 (if_neg (fun h=>h.elim (fun h=>h h1) (fun h=>h h2))).trans (if_pos hU)
theorem hearM_n {P:Par} {s:Sd} {t sr:Int} {C:Iv} (h1:s.st=1) (h2:sr=s.sr) (hU:unionI s.K C≠[((0:Int),(P.d.length:Int))]):hearM P s t sr C=sendM P { s with K:=unionI s.K C } t (s.sr+1) (bat (s.sr+1) (pcsAll (missI P.d.length (unionI s.K C)))):=
 (if_neg (fun h=>h.elim (fun h=>h h1) (fun h=>h h2))).trans (if_neg hU)
theorem hearM_3 {P:Par} {s:Sd} {t sr:Int} {C:Iv} (h1:s.st=1) (h2:sr=s.sr) (hU:unionI s.K C≠[((0:Int),(P.d.length:Int))]) (hE:P.e<endG P.c.r t (bat (s.sr+1) (pcsAll (missI P.d.length (unionI s.K C))))):hearM P s t sr C=({ s with due:=0,st:=3,K:=unionI s.K C },[]):=
 (hearM_n h1 h2 hU).trans (if_pos hE)
theorem hearM_4 {P:Par} {s:Sd} {t sr:Int} {C:Iv} (h1:s.st=1) (h2:sr=s.sr) (hU:unionI s.K C≠[((0:Int),(P.d.length:Int))]) (hE:endG P.c.r t (bat (s.sr+1) (pcsAll (missI P.d.length (unionI s.K C))))≤P.e):hearM P s t sr C=(⟨endG P.c.r t (bat (s.sr+1) (pcsAll (missI P.d.length (unionI s.K C)))),s.sr+1,endG P.c.r t (bat (s.sr+1) (pcsAll (missI P.d.length (unionI s.K C))))+2*P.c.g+1,1,unionI s.K C⟩,timed P.c.r t (bat (s.sr+1) (pcsAll (missI P.d.length (unionI s.K C))))):=
 (hearM_n h1 h2 hU).trans (if_neg (by omega))
theorem trHearS_spec {ρ ρ2:PH} {P:Par} {t0 t sr:Int} {s:Sd} {K C:Iv} {p p2:Option Addr} {k k2:Nat} (hP:okP P t0) (hs:SdOK P K s) (hv:SpAt ρ (.slice p s.K.length k) s.K) (hv2:SpAt ρ2 (.slice p2 C.length k2) C) (hC:InI P.d.length C) (hsr:1≤sr∧sr≤1099511627776) (ht:s.busy≤t∧t≤2199023255552) :
    Eng.Spec Tryz.prog (fv 189) [.agg #[int P.c.f,int P.c.t,int P.c.s,int P.c.e,int P.c.r,int P.c.g,int P.c.l,int 0,str P.d,int P.e,int s.busy,int s.sr,.slice p s.K.length k,int s.due,int s.st],int t,.agg #[int 2,int 0,int sr,int 0,int (P.d.length:Int),.bool false,str [],.slice p2 C.length k2]] [ρ,ρ2] [] (fun r H'=>∃ p3 c3 p4 c4,r=.tuple #[.agg #[int P.c.f,int P.c.t,int P.c.s,int P.c.e,int P.c.r,int P.c.g,int P.c.l,int 0,str P.d,int P.e,int (hearM P s t sr C).1.busy,int (hearM P s t sr C).1.sr,.slice p3 (hearM P s t sr C).1.K.length c3,int (hearM P s t sr C).1.due,int (hearM P s t sr C).1.st],.slice p4 (hearM P s t sr C).2.length c4,int 0] ∧
      ((p3=p∧c3=k∧(hearM P s t sr C).1.K=s.K∧p4=none∧c4=0∧(hearM P s t sr C).2=[]∧H'=[]) ∨
       (∃ σ,OwnS 49 2 (.slice p3 (hearM P s t sr C).1.K.length c3) (hearM P s t sr C).1.K.length ((hearM P s t sr C).1.K.flatMap encS) σ∧p4=none∧c4=0∧(hearM P s t sr C).2=[]∧H'=[σ]) ∨
       (∃ σ4 σ,OwnS 49 2 (.slice p3 (hearM P s t sr C).1.K.length c3) (hearM P s t sr C).1.K.length ((hearM P s t sr C).1.K.flatMap encS) σ∧OwnS 39 9 (.slice p4 (hearM P s t sr C).2.length c4) (hearM P s t sr C).2.length ((hearM P s t sr C).2.flatMap (encO 0 P.d)) σ4∧H'=[σ4,σ]))):=by
  have hcr:=chkCt_rg hP.hc
  have h2:=hP.h2
  have hb:=hs.b
  have hr:=hs.r
  refine (sndHear_spec (e:=P.e) (sr':=sr) (t0:=t) hv hv2 hP.hc (show (0:Int)≤0∧(0:Int)≤1099511627776 by omega) hP.n1 hP.n2 ⟨hb.1,hb.2,h2⟩ ⟨hr.1,by omega⟩ hs.k hC hs.st hsr ht).mono ?_
  rintro r H' (⟨h1,⟨hs,rfl,rfl⟩|⟨hs,hw,p3,c3,σ,hO,rfl,rfl⟩|⟨hs,hw,hlate,p3,c3,σ,hO,rfl,rfl⟩|⟨hs,hw,hok,p3,c3,σ,p4,c4,σ4,hO,hO4,rfl,rfl⟩⟩|⟨h1,rfl,rfl⟩)
  · rw [hearM_1 (.inr hs)]
    exact ⟨p,k,none,0,rfl,.inl ⟨rfl,rfl,rfl,rfl,rfl,rfl,rfl⟩⟩
  · rw [hearM_2 h1 hs hw]
    exact ⟨p3,c3,none,0,rfl,.inr (.inl ⟨σ,hO,rfl,rfl,rfl,rfl⟩)⟩
  · rw [hearM_3 h1 hs hw hlate]
    exact ⟨p3,c3,none,0,rfl,.inr (.inl ⟨σ,hO,rfl,rfl,rfl,rfl⟩)⟩
  · rw [hearM_4 h1 hs hw hok]
    refine ⟨p3,c3,p4,c4,?_,.inr (.inr ⟨σ4,σ,hO,hO4,rfl⟩)⟩
    dsimp only
    rw [timed_len]
  · rw [hearM_1 (.inl h1)]
    exact ⟨p,k,none,0,rfl,.inl ⟨rfl,rfl,rfl,rfl,rfl,rfl,rfl⟩⟩
def rpO (d:List UInt8):Option (Int × Iv × Option Addr × Nat)→List Value
 | none=>zSeg
 | some x=>encRp 0 x.1 d.length (.slice x.2.2.1 x.2.1.length x.2.2.2)
theorem rpO_len (d:List UInt8) (o:Option (Int × Iv × Option Addr × Nat)):(rpO d o).length=8:=by cases o <;> rfl
theorem rpO_ones (d:List UInt8) (o:Option (Int × Iv × Option Addr × Nat)):∀ v∈rpO d o,v.oneCell'=true:=by
 cases o with
 | none =>
  intro v hv
  simp only [rpO,zSeg,List.mem_cons,List.not_mem_nil,or_false] at hv
  rcases hv with rfl|rfl|rfl|rfl|rfl|rfl|rfl|rfl <;> rfl
 | some x =>
  intro v hv
  simp only [rpO,encRp,List.mem_cons,List.not_mem_nil,or_false] at hv
  rcases hv with rfl|rfl|rfl|rfl|rfl|rfl|rfl|rfl <;> rfl
def LsnI (P:Par) (t0 ld lt n:Int) (T:Ss) (s1:Ss) (σf:PH):Option (Int × Iv × Option Addr × Nat)→Prop
 | none=>s1=T
 | some x=>SpAt σf (.slice x.2.2.1 x.2.1.length x.2.2.2) x.2.1∧InI P.d.length x.2.1∧subI x.2.1 s1.K∧(1≤x.1∧x.1≤1099511627776)∧SI P t0 s1 ld n (n+1) lt∧SI P t0 (lsn1 P s1 x.1 x.2.1) ld n (n+1) lt∧s1.now=n∧(lsn1 P s1 x.1 x.2.1).now=n∧T=lsnM P (lsn1 P s1 x.1 x.2.1).rep.fr.length (lsn1 P s1 x.1 x.2.1)∧n≤2199023255552
theorem trGetO1_spec {P:Par} {t0:Int} {s T:Ss} {pp pq:Option Addr} {cp cq:Nat} {M:Mm} {σ:S6} {ld lt n:Int} (hP:okP P t0) (hS:SI P t0 s ld n (n+1) lt) (hnn:s.now=n) (hn:0≤n) (hlt:lt≤n+1) (hT:T=lsnM P s.rep.fr.length s) (hM:MOK P s M σ) (bs:Nat) :
  Eng.Spec Tryz.prog (fv 188) [.pointer (some ⟨bs,0,none⟩),.pointer (some ⟨bs,4,none⟩)] [] [sesB pp pq cp cq P s M bs,σ.b] (fun r H'=>∃ o s1 M1 ρ1,LsnI P t0 ld lt n T s1 σ.f o∧MOK P s1 M1 { σ with b:=ρ1 }∧(o.isSome=true→s1.rep.fr.length+1=s.rep.fr.length)∧r=.tuple #[.agg (rpO P.d o).toArray,.bool o.isSome]∧H'=[sesB pp pq cp cq P s1 M1 bs,ρ1]):=by
 subst hnn;refine (trGet1_spec hP hS hn hlt hM bs).mono ?_;rintro r H' (⟨h1,h2,h3⟩|⟨sr,C,p,c,l,M',ρ',h1,h2,h3,h4,h5,h6,h7,h8,h9,h10,h11,h12,h13⟩)
 ·exact ⟨none,s,M,σ.b,(h1 _).symm.trans hT.symm,hM,(fun h=>by cases h),h2,h3⟩
 ·exact ⟨some (sr,C,p,c),{ s with rep:={ s.rep with fr:=l } },M',ρ',⟨h2,h3,h4,h5,h7,h8,rfl,h9,hT.trans h10,h11⟩,h12,fun _=>h6.symm,h1,h13⟩
def lsnB (s:Ss):Ss:=if s.kn=false∧s.snd.st=2 then { s with kn:=true,knAt:=s.now } else s
theorem lsn1_go {P:Par} {s:Ss} {sr:Int} {C:Iv} (h:¬ s.now<s.snd.busy) (hw:s.wait=[]):lsn1 P s sr C=lsnB { s with snd:=(hearM P s.snd s.now sr C).1,wait:=(hearM P s.snd s.now sr C).2 }:=by
 have e:lsn1 P s sr C=lsnB { s with snd:=(hearM P s.snd s.now sr C).1,wait:=s.wait ++ (hearM P s.snd s.now sr C).2 }:=if_neg h
 rw [e,hw,List.nil_append]
theorem lsn1_busy {P:Par} {s:Ss} {sr:Int} {C:Iv} (h:s.now<s.snd.busy):lsn1 P s sr C=s:=if_pos h
theorem MOK.kno {P:Par} {s:Ss} {M:Mm} {σ:S6} (h:MOK P s M σ) (r:Bool) (a:Int):MOK P { s with kn:=r,knAt:=a } M σ:=⟨h.d,h.dm,h.d1,h.r,h.rm,h.r1,h.o0,h.o1,h.om,h.o2,h.w,h.a,h.k⟩
theorem MOK.lsn {P:Par} {s:Ss} {M:Mm} {σ:S6} (h:MOK P s M σ) {γ ρw:PH} {S2:Sd} {W:List (Int × Sg)} {p3 pz:Option Addr} {c3 cz:Nat} (g:PH.sub σ.f γ) (hk:SpAt γ (.slice p3 S2.K.length c3) S2.K) (hw:OwnQ 39 9 (.slice pz W.length cz) W.length (W.flatMap (encO 0 P.d)) ρw) :
  MOK P { s with snd:=S2,wait:=W } { M with p4:=p3,c4:=c3,p6:=pz,c6:=cz } { σ with e:=ρw,f:=γ }:=
 ⟨h.d,h.dm,h.d1,h.r,h.rm,fun f hf=>(by obtain ⟨sr,C,p,c,k1,k2,k3⟩:=h.r1 f hf; exact ⟨sr,C,p,c,k1,k2,k3.mono g⟩),h.o0,h.o1,h.om,fun y hy=>(by obtain ⟨p,c,k1,k2⟩:=h.o2 y hy; exact ⟨p,c,k1,k2.mono g⟩),hw,hk,h.k.mono g⟩
structure Ll where
 b:Nat
 p3:Option Addr
 c3:Nat
 k:PH
 p4:Option Addr
 c4:Nat
 r:PH
theorem trListen_spec {P:Par} {t0:Int} {s:Ss} {pp pq:Option Addr} {cp cq:Nat} {M:Mm} {σ:S6} {ld lt n:Int} (hP:okP P t0) (hS:SI P t0 s ld n (n+1) lt) (hnn:s.now=n) (hn:0≤n) (hlt:lt≤n+1) (hM:MOK P s M σ) (bs:Nat) :
  Eng.Spec Tryz.prog (fv 137) [.pointer (some ⟨bs,0,none⟩)] [] [sesB pp pq cp cq P s M bs,σ.a,σ.b,σ.c,σ.d,σ.e,σ.f] (fun r H'=>r=.tuple #[]∧∃ M' σ',MOK P (lsnM P s.rep.fr.length s) M' σ'∧H'=[sesB pp pq cp cq P (lsnM P s.rep.fr.length s) M' bs,σ'.a,σ'.b,σ'.c,σ'.d,σ'.e,σ'.f]):=by
 have hn1:=hP.n1
 have hn2:=hP.n2
 have hcr:=chkCt_rg hP.hc
 have h2:=hP.h2
 have hg0:=trGetO1_spec (pp:=pp) (pq:=pq) (cp:=cp) (cq:=cq) hP hS hnn hn hlt rfl hM bs
 generalize lsnM P s.rep.fr.length s=T at hg0 ⊢
 refine spec_in (cap:=[]) Tryz.func137 rfl rfl Tryz.ntmps137 rfl envZ (fun N β=>?_)
 refine Aar ?_;refine Acw ?_;refine BG hg0 rfl rfl takesZ rdZ rfl rfl ?_;rintro _ _ ⟨o,s1,M1,ρ1,hI,hM1,_,rfl,rfl⟩;refine Aaw ?_;refine A6 ?_; rintro _ _ ⟨b,rfl,rfl⟩
 revert b; intro b2
 refine BR (A9 (vs:=rpO P.d o) rfl rfl takeZ (rpO_ones _ _) (by rw [rpO_len]; rfl) (by rw [rpO_len]; rfl)) rfl rfl ?_
 rintro _ _ ⟨rfl,rfl⟩;refine Aaa ?_;refine A8 ?_
 refine BX [0] (X:=Ss × Mm × S6 × Option (Int × Iv × Option Addr × Nat) × Nat) (s1,M1,{ σ with b:=ρ1 },o,b2) (fun z=>LsnI P t0 ld lt n T z.1 z.2.2.1.f z.2.2.2.1∧MOK P z.1 z.2.1 z.2.2.1) (fun z=>[(2,.pointer (some ⟨z.2.2.2.2,0,none⟩)),(3,.bool z.2.2.2.1.isSome)]) (fun z=>[sesB pp pq cp cq P z.1 z.2.1 bs,z.2.2.1.a,z.2.2.1.b,z.2.2.1.c,z.2.2.1.d,z.2.2.1.e,z.2.2.1.f,sng z.2.2.2.2 (.cells (rpO P.d z.2.2.2.1).toArray 37 (0,0))]) (fun z=>if z.2.2.2.1.isSome=true then z.1.rep.fr.length+1 else 0) pickZ ⟨hI,hM1⟩ covZ selZ ?_
 rintro ⟨s2,M2,σ2,o2,b3⟩ ⟨hI2,hM2⟩
 dsimp only at hI2 hM2 ⊢
 rcases o2 with _|⟨sr,C,pc,kc⟩
 ·obtain rfl:s2=T:=hI2
  refine Aah ?_;refine AE ?_;refine Aay ?_;exact BW (H':=[sesB pp pq cp cq P s2 M2 bs,σ2.a,σ2.b,σ2.c,σ2.d,σ2.e,σ2.f]) (res0 rfl) rsubZ selZ ⟨rfl,M2,σ2,hM2,rfl⟩
 obtain ⟨hCa,hC,hCs,hsr,hS2,hS3,hn2',hn3,hT,hb⟩:=hI2
 dsimp only at hCa hC hCs hsr hS3 hn3 hT
 repeat refine AD ?_
 refine AA ?_;refine Aax ?_
 repeat refine AD ?_
 refine Aa6 ?_
 repeat refine AD ?_
 refine C3 (X:=Mm × S6) [0,2] (fun z=>MOK P (lsn1 P s2 sr C) z.1 z.2) (fun _=>[]) (fun z=>[sesB pp pq cp cq P (lsn1 P s2 sr C) z.1 bs,z.2.a,z.2.b,z.2.c,z.2.d,z.2.e,z.2.f,sng b3 (.cells (rpO P.d (some (sr,C,pc,kc))).toArray 37 (0,0))]) pickZ ?_ ?_
 rotate_left
 ·rintro ⟨M3,σ3⟩ hM3
  dsimp only at hM3 ⊢
  have hrep3:=lsn1_rep P s2 sr C
  have hg3:=trGetO1_spec (pp:=pp) (pq:=pq) (cp:=cp) (cq:=cq) hP hS3 hn3 hn hlt hT hM3 bs
  generalize lsn1 P s2 sr C=s3 at *
  refine Ab6 ?_;refine AE ?_;refine AA ?_;refine A6 ?_; rintro _ _ ⟨b,rfl,rfl⟩;refine AX ?_; rintro _ _ ⟨rfl,rfl⟩;refine AE ?_;refine Ab5 ?_;refine Acw ?_
  revert b; intro b4
  refine BG hg3 rfl rfl takesZ rdZ rfl rfl ?_;rintro _ _ ⟨o4,s4,M4,ρ4,hI4,hM4,hlen4,rfl,rfl⟩;refine Aaw ?_
  refine BR (A9 (vs:=rpO P.d o4) rfl rfl takeZ (rpO_ones _ _) (by rw [rpO_len]; rfl) (by rw [rpO_len]; rfl)) rfl rfl ?_
  rintro _ _ ⟨rfl,rfl⟩;refine Aaa ?_
  exact BH (s4,M4,{ σ3 with b:=ρ4 },o4,b4) ⟨hI4,hM4⟩ (by
   dsimp only
   rw [if_pos (show (some (sr,C,pc,kc)).isSome=true from rfl)]
   split
   ·rename_i ho
    have:=hlen4 ho
    rw [hrep3] at this;omega
   ·omega) covZ selZ
 obtain ⟨F,G,O,p0,p1,p2,p3',p4',p5,p6,c0,c1,c2,c3',c4',c5,c6⟩:=M2
 unfold sesB
 dsimp only
 refine A8 ?_
 repeat refine AD ?_
 by_cases hbz:s2.now<s2.snd.busy
 ·rw [lsn1_busy hbz]
  refine BD P7Z [] rfl (by kernel_rfl) Sel.nil ?_
  refine Aav ?_;refine Add ?_;refine zd_lt ?_;refine Acl ?_;refine BT rfl ?_;exact BB (⟨F,G,O,p0,p1,p2,p3',p4',p5,p6,c0,c1,c2,c3',c4',c5,c6⟩,σ2) hM2 covZ selZ
 have hwn:s2.wait=[]:=wait_nil (s:=s2) (by rw [hn2']; exact hS2) (by omega)
 have hgo:=lsn1_go (P:=P) (sr:=sr) (C:=C) hbz hwn
 have hhear:=trHearS_spec (t:=s2.now) hP hS2.sn hM2.a hCa hC hsr ⟨by omega,by omega⟩
 have hhl:=hearM_len hP (t:=s2.now) (sr:=sr) hS2.sn.k hC
 have c16:RdN (sng bs (.cells #[int P.c.g,.slice p0 F.length c0,int s2.dat.sent,int s2.dat.lost,int P.c.g,.slice p1 G.length c1,int s2.rep.sent,int s2.rep.lost,.slice pp P.picks.length cp,int P.limit,.slice pq P.dark.length cq,int s2.ent,int s2.dis,.slice p2 s2.out0.length c2,.slice p3' O.length c3',int s2.now,int P.c.f,int P.c.t,int P.c.s,int P.c.e,int P.c.r,int P.c.g,int P.c.l,int 0,str P.d,int P.e,int s2.snd.busy,int s2.snd.sr,.slice p4' s2.snd.K.length c4',int s2.snd.due,int s2.snd.st,int 0,int (totR P.d s2.K),.slice p5 s2.K.length c5,str (datR P.d s2.K),.slice p6 s2.wait.length c6,.bool s2.rcvd,int s2.arr,.bool s2.kn,int s2.knAt] 85 (0,0))) bs 16 [int P.c.f,int P.c.t,int P.c.s,int P.c.e,int P.c.r,int P.c.g,int P.c.l,int 0,str P.d,int P.e,int s2.snd.busy,int s2.snd.sr,.slice p4' s2.snd.K.length c4',int s2.snd.due,int s2.snd.st]:=(rdP_sng (xs:=[int P.c.g,.slice p0 F.length c0,int s2.dat.sent,int s2.dat.lost,int P.c.g,.slice p1 G.length c1,int s2.rep.sent,int s2.rep.lost,.slice pp P.picks.length cp,int P.limit,.slice pq P.dark.length cq,int s2.ent,int s2.dis,.slice p2 s2.out0.length c2,.slice p3' O.length c3',int s2.now,int P.c.f,int P.c.t,int P.c.s,int P.c.e,int P.c.r,int P.c.g,int P.c.l,int 0,str P.d,int P.e,int s2.snd.busy,int s2.snd.sr,.slice p4' s2.snd.K.length c4',int s2.snd.due,int s2.snd.st,int 0,int (totR P.d s2.K),.slice p5 s2.K.length c5,str (datR P.d s2.K),.slice p6 s2.wait.length c6,.bool s2.rcvd,int s2.arr,.bool s2.kn,int s2.knAt]) rfl).rd
 have cx:RdN (sng b3 (.cells (rpO P.d (some (sr,C,pc,kc))).toArray 37 (0,0))) b3 0 [int 2,int 0,int sr,int 0,int (P.d.length:Int),.bool false,str [],.slice pc C.length kc]:=rdN_sng (vs:=[int 2,int 0,int sr,int 0,int (P.d.length:Int),.bool false,str [],.slice pc C.length kc])
 refine BD P7Z [] rfl (by kernel_rfl) Sel.nil ?_
 refine Aav ?_;refine Add ?_;refine DZ ?_;refine A7 ?_
 repeat refine AE ?_
 repeat refine AD ?_
 refine Aaf ?_
 repeat refine AD ?_
 refine C3 (X:=Ll) [0,2] (fun z=>((z.p3=p4'∧z.c3=c4'∧(hearM P s2.snd s2.now sr C).1.K=s2.snd.K∧z.k=emp)∨OwnS 49 2 (.slice z.p3 (hearM P s2.snd s2.now sr C).1.K.length z.c3) (hearM P s2.snd s2.now sr C).1.K.length ((hearM P s2.snd s2.now sr C).1.K.flatMap encS) z.k)∧OwnS 39 9 (.slice z.p4 (hearM P s2.snd s2.now sr C).2.length z.c4) (hearM P s2.snd s2.now sr C).2.length ((hearM P s2.snd s2.now sr C).2.flatMap (encO 0 P.d)) z.r) (fun z=>[(4,.pointer (some ⟨z.b,0,none⟩)),(5,.slice z.p4 (hearM P s2.snd s2.now sr C).2.length z.c4),(6,int 0)]) (fun z=>[sng z.b (.cells #[int P.c.f,int P.c.t,int P.c.s,int P.c.e,int P.c.r,int P.c.g,int P.c.l,int 0,str P.d,int P.e,int (hearM P s2.snd s2.now sr C).1.busy,int (hearM P s2.snd s2.now sr C).1.sr,.slice z.p3 (hearM P s2.snd s2.now sr C).1.K.length z.c3,int (hearM P s2.snd s2.now sr C).1.due,int (hearM P s2.snd s2.now sr C).1.st] 83 (0,0)),sng bs (.cells #[int P.c.g,.slice p0 F.length c0,int s2.dat.sent,int s2.dat.lost,int P.c.g,.slice p1 G.length c1,int s2.rep.sent,int s2.rep.lost,.slice pp P.picks.length cp,int P.limit,.slice pq P.dark.length cq,int s2.ent,int s2.dis,.slice p2 s2.out0.length c2,.slice p3' O.length c3',int s2.now,int P.c.f,int P.c.t,int P.c.s,int P.c.e,int P.c.r,int P.c.g,int P.c.l,int 0,str P.d,int P.e,int s2.snd.busy,int s2.snd.sr,.slice p4' s2.snd.K.length c4',int s2.snd.due,int s2.snd.st,int 0,int (totR P.d s2.K),.slice p5 s2.K.length c5,str (datR P.d s2.K),.slice p6 s2.wait.length c6,.bool s2.rcvd,int s2.arr,.bool s2.kn,int s2.knAt] 85 (0,0)),σ2.a,σ2.b,σ2.c,σ2.d,σ2.e,σ2.f,z.k,z.r,sng b3 (.cells (rpO P.d (some (sr,C,pc,kc))).toArray 37 (0,0))]) pickZ ?_ ?_
 ·refine BD (.q 0 (.q 1 (.q 2 (.q 3 (.q 4 (.q 5 (.q 6 (.q 7 (.q 8 (.l2 9 .e (.q 10 (.q 11 (.p 12 (.p 13 (.l 14 .e (.l 15 .b (.q 16 (.q 17 .nil)))))))) 14 .e (.l 9 .e (.q 10 (.q 11 (.p 12 (.p 13 (.l 15 .b (.q 16 (.q 17 .nil)))))))))))))))))) [] rfl (by kernel_rfl) Sel.nil ?_
  repeat' (first
   | (refine AJ ?_)
   | (refine AS ?_)
   | (refine AU ?_)
   | (refine AT ?_)
   | (refine B8 ?_)
   | (refine CZ ?_ ?_)
   | (refine BZ ?_; rintro _ _ ⟨b,rfl,rfl⟩)
   | fail)
  ·refine CY rfl hhear rfl rfl rdZ rfl rfl ?_
   rintro _ _ ⟨p3,c3,p4,c4,rfl,⟨hp3,hc3,hKs,rfl,rfl,hW,rfl⟩|⟨σk,hO,rfl,rfl,hW,rfl⟩|⟨σ4,σk,hO,hO4,rfl⟩⟩
   ·refine AJ ?_
    refine Acb ?_;refine BV ?_; rintro _ _ ⟨b,rfl,rfl⟩
    revert b; intro b4
    skip
    refine BL ?_;refine' CG rfl _ rfl rfl _ _
    rotate_left
    ·apply A9; exact rfl; exact rfl; exact takeZ; exact oneZ; exact rfl; exact rfl
    ·rintro _ _ ⟨_,rfl⟩ w hw; exact hw.sel Sel.nil
    rintro _ _ ⟨rfl,rfl⟩;refine Abk ?_
    skip
    refine CB ?_;refine CB ?_
    exact BB ⟨b4,p3,c3,emp,none,0,emp⟩ ⟨.inl ⟨hp3,hc3,hKs,rfl⟩,(by rw [hW]; exact OwnS.nil _ _)⟩ covZ selZ
   ·refine AJ ?_
    refine Acb ?_;refine BV ?_; rintro _ _ ⟨b,rfl,rfl⟩
    revert b; intro b4
    skip
    refine BL ?_;refine' CG rfl _ rfl rfl _ _
    rotate_left
    ·apply A9; exact rfl; exact rfl; exact takeZ; exact oneZ; exact rfl; exact rfl
    ·rintro _ _ ⟨_,rfl⟩ w hw; exact hw.sel Sel.nil
    rintro _ _ ⟨rfl,rfl⟩;refine Abk ?_
    skip
    refine CB ?_
    exact BB ⟨b4,p3,c3,σk,none,0,emp⟩ ⟨.inr hO,(by rw [hW]; exact OwnS.nil _ _)⟩ covZ selZ
   ·refine AJ ?_
    refine Acb ?_;refine BV ?_; rintro _ _ ⟨b,rfl,rfl⟩
    revert b; intro b4
    skip
    refine BL ?_;refine' CG rfl _ rfl rfl _ _
    rotate_left
    ·apply A9; exact rfl; exact rfl; exact takeZ; exact oneZ; exact rfl; exact rfl
    ·rintro _ _ ⟨_,rfl⟩ w hw; exact hw.sel Sel.nil
    rintro _ _ ⟨rfl,rfl⟩;refine Abk ?_
    skip
    exact BB ⟨b4,p3,c3,σk,p4,c4,σ4⟩ ⟨.inr hO,hO4⟩ covZ selZ
  ·revert b; intro b4
   refine BL (CY rfl hhear rfl rfl rdZ rfl rfl ?_);rintro _ _ ⟨p3,c3,p4,c4,rfl,⟨hp3,hc3,hKs,rfl,rfl,hW,rfl⟩|⟨σk,hO,rfl,rfl,hW,rfl⟩|⟨σ4,σk,hO,hO4,rfl⟩⟩
   ·refine AJ ?_
    refine Acb ?_;refine BL ?_;refine' CG rfl _ rfl rfl _ _
    rotate_left
    ·apply A9; exact rfl; exact rfl; exact takeZ; exact oneZ; exact rfl; exact rfl
    ·rintro _ _ ⟨_,rfl⟩ w hw; exact hw.sel Sel.nil
    rintro _ _ ⟨rfl,rfl⟩;refine Abk ?_
    skip
    refine CB ?_;refine CB ?_
    exact BB ⟨b4,p3,c3,emp,none,0,emp⟩ ⟨.inl ⟨hp3,hc3,hKs,rfl⟩,(by rw [hW]; exact OwnS.nil _ _)⟩ covZ selZ
   ·refine AJ ?_
    refine Acb ?_;refine BL ?_;refine' CG rfl _ rfl rfl _ _
    rotate_left
    ·apply A9; exact rfl; exact rfl; exact takeZ; exact oneZ; exact rfl; exact rfl
    ·rintro _ _ ⟨_,rfl⟩ w hw; exact hw.sel Sel.nil
    rintro _ _ ⟨rfl,rfl⟩;refine Abk ?_
    skip
    refine CB ?_
    exact BB ⟨b4,p3,c3,σk,none,0,emp⟩ ⟨.inr hO,(by rw [hW]; exact OwnS.nil _ _)⟩ covZ selZ
   ·refine AJ ?_
    refine Acb ?_;refine BL ?_;refine' CG rfl _ rfl rfl _ _
    rotate_left
    ·apply A9; exact rfl; exact rfl; exact takeZ; exact oneZ; exact rfl; exact rfl
    ·rintro _ _ ⟨_,rfl⟩ w hw; exact hw.sel Sel.nil
    rintro _ _ ⟨rfl,rfl⟩;refine Abk ?_
    skip
    exact BB ⟨b4,p3,c3,σk,p4,c4,σ4⟩ ⟨.inr hO,hO4⟩ covZ selZ
 rintro ⟨b4,p3,c3,σk,p4,c4,σ4⟩ ⟨hO,hO4⟩
 dsimp only at hO hO4 ⊢
 refine Aco ?_;refine Aab ?_;refine AV ?_;refine Aa2 ?_
 refine BR (CU (vs:=[int P.c.f,int P.c.t,int P.c.s,int P.c.e,int P.c.r,int P.c.g,int P.c.l,int 0,str P.d,int P.e,int (hearM P s2.snd s2.now sr C).1.busy,int (hearM P s2.snd s2.now sr C).1.sr,.slice p3 (hearM P s2.snd s2.now sr C).1.K.length c3,int (hearM P s2.snd s2.now sr C).1.due,int (hearM P s2.snd s2.now sr C).1.st]) rfl rfl oneZ rfl takeZ (by show 16+15≤40; omega)) rfl rfl ?_
 rintro _ _ ⟨rfl,rfl⟩
 change JK _ _ _ (sng bs (.cells #[int P.c.g,.slice p0 F.length c0,int s2.dat.sent,int s2.dat.lost,int P.c.g,.slice p1 G.length c1,int s2.rep.sent,int s2.rep.lost,.slice pp P.picks.length cp,int P.limit,.slice pq P.dark.length cq,int s2.ent,int s2.dis,.slice p2 s2.out0.length c2,.slice p3' O.length c3',int s2.now,int P.c.f,int P.c.t,int P.c.s,int P.c.e,int P.c.r,int P.c.g,int P.c.l,int 0,str P.d,int P.e,int (hearM P s2.snd s2.now sr C).1.busy,int (hearM P s2.snd s2.now sr C).1.sr,.slice p3 (hearM P s2.snd s2.now sr C).1.K.length c3,int (hearM P s2.snd s2.now sr C).1.due,int (hearM P s2.snd s2.now sr C).1.st,int 0,int (totR P.d s2.K),.slice p5 s2.K.length c5,str (datR P.d s2.K),.slice p6 s2.wait.length c6,.bool s2.rcvd,int s2.arr,.bool s2.kn,int s2.knAt] 85 (0,0))::_) _ _
 refine Ac3 ?_;refine Aa5 ?_;refine AB ?_
 have hq0:OwnQ 39 9 (.slice p6 s2.wait.length c6) 0 [] σ2.e:=by
  have h:=hM2.w
  dsimp only at h
  rw [hwn] at h ⊢;exact h
 refine BK (D3 (by_:=96) (s:=9) (w0:=.slice p4 (hearM P s2.snd s2.now sr C).2.length c4) (σ:=σ4) (m:=(hearM P s2.snd s2.now sr C).2.length) (news:=(hearM P s2.snd s2.now sr C).2.flatMap (encO 0 P.d)) rfl rfl rfl rfl rfl rfl rfl hq0 takeZ hO4.at (fun b o h=>cellsH h memZ) (fun u hu=>by obtain ⟨y,_,hy⟩:=List.mem_flatMap.1 hu; exact encO_ones 0 P.d y u hy) (by simp only [maxLen]; omega) (by omega)) rfl rfl rfl ?_
 rintro u2 _ ⟨σz,hQ,rfl⟩
 obtain ⟨pz,cz,rfl⟩:=hQ.form
 refine ER (ρ:=σ2.f) (σ:=σk) takeZ takeZ (fun γ g1 g2=>?_)
 have hKA:SpAt γ (.slice p3 (hearM P s2.snd s2.now sr C).1.K.length c3) (hearM P s2.snd s2.now sr C).1.K:=by
  rcases hO with ⟨rfl,rfl,hKs,_⟩|hO
  ·rw [hKs]
   exact SlE.mono hM2.a g1
  ·exact SlE.mono hO.at g2
 have hMA:=MOK.lsn (S2:=(hearM P s2.snd s2.now sr C).1) (W:=(hearM P s2.snd s2.now sr C).2) hM2 g1 hKA hQ
 rw [hgo];clear hgo hhear hhl c16 cx hO hO4 hKA hQ hq0 hS3 hn3 hT hM2
 generalize (hearM P s2.snd s2.now sr C)=r at *
 obtain ⟨r1,r2⟩:=r
 obtain ⟨ydat,yrep,yent,ydis,yout0,yout1,ynow,ysnd,yK,ywait,yrcvd,yarr,ykn,yknAt⟩:=s2
 dsimp only at hMA ⊢
 cases ykn with
 | true =>
  have hB:lsnB ⟨ydat,yrep,yent,ydis,yout0,yout1,ynow,r1,yK,r2,yrcvd,yarr,true,yknAt⟩=⟨ydat,yrep,yent,ydis,yout0,yout1,ynow,r1,yK,r2,yrcvd,yarr,true,yknAt⟩:=if_neg (fun h=>by cases h.1)
  rw [hB];refine Aa2 ?_;refine BA ?_; rintro _ _ ⟨rfl,rfl⟩;refine Abu ?_;refine Aa5 ?_;refine BC ?_;refine Acn ?_;refine Aa3 ?_;refine BI ?_;exact BB (⟨F,G,O,p0,p1,p2,p3',p3,p5,pz,c0,c1,c2,c3',c3,c5,cz⟩,⟨σ2.a,σ2.b,σ2.c,σ2.d,σz,γ⟩) hMA covZ selZ
 | false =>
  by_cases hst:r1.st=2
  ·have hB:lsnB ⟨ydat,yrep,yent,ydis,yout0,yout1,ynow,r1,yK,r2,yrcvd,yarr,false,yknAt⟩=⟨ydat,yrep,yent,ydis,yout0,yout1,ynow,r1,yK,r2,yrcvd,yarr,true,ynow⟩:=if_pos ⟨rfl,hst⟩
   rw [hB];refine Aa2 ?_;refine BA ?_; rintro _ _ ⟨rfl,rfl⟩;refine Abu ?_;refine Aa5 ?_;refine Acq ?_;refine Aa2 ?_;refine DF ?_;refine AG ?_;refine CM ?_;refine Abr ?_;refine AA ?_;refine Abl ?_;refine Aa5 ?_;refine Aa2 ?_;refine BA ?_; rintro _ _ ⟨rfl,rfl⟩;refine Aa2 ?_;refine BA ?_; rintro _ _ ⟨rfl,rfl⟩;refine AE ?_;refine BI ?_;exact BB (⟨F,G,O,p0,p1,p2,p3',p3,p5,pz,c0,c1,c2,c3',c3,c5,cz⟩,⟨σ2.a,σ2.b,σ2.c,σ2.d,σz,γ⟩) (MOK.kno hMA true ynow) covZ selZ
  ·have hB:lsnB ⟨ydat,yrep,yent,ydis,yout0,yout1,ynow,r1,yK,r2,yrcvd,yarr,false,yknAt⟩=⟨ydat,yrep,yent,ydis,yout0,yout1,ynow,r1,yK,r2,yrcvd,yarr,false,yknAt⟩:=if_neg (fun h=>hst h.2)
   rw [hB];refine Aa2 ?_;refine BA ?_; rintro _ _ ⟨rfl,rfl⟩;refine Abu ?_;refine Aa5 ?_;refine Acq ?_;refine Aa2 ?_;refine DF ?_;refine AG ?_;refine CI ?_;refine A4 ?_;refine Aag ?_;refine BI ?_;exact BB (⟨F,G,O,p0,p1,p2,p3',p3,p5,pz,c0,c1,c2,c3',c3,c5,cz⟩,⟨σ2.a,σ2.b,σ2.c,σ2.d,σz,γ⟩) hMA covZ selZ
end Go.Proofs.YtahbngakckbenaaGreatDoor
namespace Go.Eng
variable {C:Cx} {D:List Deferred} {R H:List PH} {L:Env} {K:List It}
section
variable {dst:Option Tmp} {ty:TypeId} {pos:String} {aft:Array Edge} {g:Option (Nat × Bool)}
theorem E7 {x y:Operand} {t e:TypeId} {cs:Array Value} {k:IntKind} {i n:Nat} {v:Value} (h:evalE L x=some (.agg cs)) (hy:evalE L y=some (.int k (i:Int))) (ht:C.P.underlying t=some (.array n e)) (ha:aggP C.P e=some false) (hs:szP C.P e=some 1) (hi:i<n) (hv:cs[i]?=some v) :
    Quiet C R H L ⟨dst,.index t x y,ty,pos,aft,g⟩ v:=
  ⟨by intro c; simp,fun a w hx _=>by
    have e1:=hx x (by simp [Op.operands]) _ h
    have e2:=hx y (by simp [Op.operands]) _ hy
    simp [execOp,e1,e2,Instr.index,asIntOf,run_underlying ht,hi,run_sizeOf hs,part,run_isAgg ha,hv]⟩
end
theorem Upd.last {A:List PH} {σ:PH} {w w':World} (u:Upd H (A ++ [σ]) w w'):Upd H (A ++ [emp]) w w' where
  size:=u.size
  keep:=u.keep
  own:=fun ρ hρ=>by
    rcases List.mem_append.1 hρ with h|h
    · exact u.own ρ (by simp [h])
    · simp at h
      subst h
      intro b o hb
      simp [emp] at hb
  hd:=by
    obtain ⟨h1,_,_⟩:=List.pairwise_append.1 u.hd
    exact List.pairwise_append.2 ⟨h1,List.pairwise_singleton _ _,fun _ _ _ h=>by simp at h; subst h; exact fun _=>.inr rfl⟩
  new:=fun ρ hρ b hb=>by
    rcases List.mem_append.1 hρ with h|h
    · exact u.new ρ (by simp [h]) b hb
    · simp at h
      subst h
      simp [emp] at hb
theorem Spec.last {P:Program} {f:Value} {args:List Value} {R H:List PH} {post post':Value→List PH→Prop} (h:Spec P f args R H post) (hq:∀ v H1,post v H1→∃ A σ,H1=A ++ [σ]∧post' v (A ++ [emp])):Spec P f args R H post':=by
  intro N w hs
  refine (h N w hs).mono ?_;rintro v w' ⟨H1,h1,hu⟩
  obtain ⟨A,σ,rfl,h3⟩:=hq v H1 h1
  exact ⟨_,h3,hu.last⟩
end Go.Eng
namespace Go.Step
open Go.Eng
theorem RI.clr {P:Par} {t0 u:Int} {s:Ss} (h:RI P t0 s u):RI P t0 (clrM s) u:=by
  obtain ⟨c1,c2,c3,c4,c5⟩:=clrM_ok h.si
  refine ⟨c1,by unfold rcOK; rw [c3,c4]; exact h.rc,h.u0,h.u1,?_,?_,clrM_cv h.cv⟩
  · unfold clrM
    split
    · exact Nat.zero_le _
    · exact h.wl
  · have e:(clrM s).dis=s.dis:=by
      unfold clrM
      split <;> rfl
    rw [e];exact h.ds
def st1 (P:Par) (s:Ss):Ss:=trM P s.wait s
def st2 (P:Par) (s:Ss):Ss:=dlvM P (st1 P s).dat.fr.length (st1 P s)
def st3 (P:Par) (s:Ss):Ss:=lsnM P (st2 P s).rep.fr.length (st2 P s)
def st4 (P:Par) (s:Ss):Ss:=expM P (st3 P s)
def stg (P:Par) (s:Ss):Nat→Ss
  | 0=>s
  | 1=>st1 P s
  | 2=>st2 P s
  | 3=>st3 P s
  | _=>st4 P s
theorem minO_none {a b:Option Int} (h:minO a b=none):a=none∧b=none:=by
  cases a with
  | none=>exact ⟨rfl,h⟩
  | some a =>
    cases b with
    | none=>cases h
    | some b =>
      have e:minO (some a) (some b)=if b<a then some b else some a:=rfl
      rw [e] at h
      split at h <;> simp at h
theorem next_wait {s:Ss} (h:nextM s=none):s.wait=[]:=by
  have h1:=(minO_none (minO_none (minO_none h).1).1).1
  cases e:s.wait with
  | nil=>rfl
  | cons x w=>rw [e] at h1; cases h1
theorem expM_frame (P:Par) (s:Ss):∃ b r du st W,expM P s={ s with snd:=⟨b,r,du,st,s.snd.K⟩,wait:=W }:=by
  unfold expM
  split
  · exact ⟨_,_,_,_,_,rfl⟩
  · unfold waitM sendM
    split
    · exact ⟨_,_,_,_,_,rfl⟩
    · exact ⟨_,_,_,_,_,rfl⟩
end Go.Step
namespace Go.Proofs.YtahbngakckbenaaGreatDoor
open Go.Eng Go.Step
set_option maxRecDepth 100000
set_option maxHeartbeats 64000000
theorem trNextM_spec {P:Par} {t0 u:Int} {s:Ss} {pp pq:Option Addr} {cp cq:Nat} {M:Mm} {σ:S6} (hP:okP P t0) (hI:RI P t0 s u) (hM:MOK P s M σ) (bs:Nat) :
  Eng.Spec Tryz.prog (fv 81) [.pointer (some ⟨bs,0,none⟩)] [] [sesB pp pq cp cq P s M bs,σ.a,σ.b,σ.e] (fun r H'=>r=.tuple #[int ((nextM (clrM s)).getD 0),.bool (nextM (clrM s)).isSome]∧∃ M' ρe,MOK P (clrM s) M' { σ with e:=ρe }∧H'=[sesB pp pq cp cq P (clrM s) M' bs,σ.a,σ.b,ρe]):=by
 have hcr:=chkCt_rg hP.hc
 have hcs:=chkCt_se hP.hc
 have h0:=hP.h0
 have h2:=hP.h2
 have hS:=hI.si
 have hen:=hS.en
 have hl0:=hS.dat.lst
 have hl1:=hS.rep.lst
 have hu:=hI.u0
 have hwl:=hI.wl
 have h:=trNext_spec (y13:=.slice M.p2 s.out0.length M.c2) (y14:=.slice M.p3 M.O.length M.c3) (y15:=int s.now) (y16:=int P.c.f) (y17:=int P.c.t) (y18:=int P.c.s) (y19:=int P.c.e) (y20:=int P.c.r) (y21:=int P.c.g) (y22:=int P.c.l) (y23:=int 0) (y24:=str P.d) (y25:=int P.e) (y26:=int s.snd.busy) (y27:=int s.snd.sr) (y28:=.slice M.p4 s.snd.K.length M.c4) (y31:=int 0) (y32:=int (totR P.d s.K)) (y33:=.slice M.p5 s.K.length M.c5) (y34:=str (datR P.d s.K)) (y36:=.bool s.rcvd) (y37:=int s.arr) (y38:=.bool s.kn) (y39:=int s.knAt) (P:=P) (s:=s) (d:=P.d) (pp:=pp) (pq:=pq) (cp:=cp) (cq:=cq) (ld:=u) (lr:=u) hM.d.at (fun f hf=>by rw [hM.d1 f hf]; rfl) hM.dm hS.dat (by omega) (by omega) hM.r.at (fun f hf=>by obtain ⟨_,_,_,_,_,e,_⟩:=hM.r1 f hf; rw [e]; rfl) hM.rm hS.rep (by omega) hcr.2.1 (by omega) (by omega) (OwnQ.at hM.w) (by omega) bs
 by_cases hf:10000≤s.ent
 ·refine h.last ?_
  rintro v H1 ⟨rfl,rfl⟩
  have hcl:clrM s={ s with wait:=[] }:=if_pos hf
  rw [if_pos hf,hcl];exact ⟨[_,_,_],_,rfl,rfl,{ M with p6:=none,c6:=0 },emp,⟨hM.d,hM.dm,hM.d1,hM.r,hM.rm,hM.r1,hM.o0,hM.o1,hM.om,hM.o2,OwnQ.nil _ _,hM.a,hM.k⟩,rfl⟩
 ·refine h.mono ?_
  rintro v H1 ⟨rfl,rfl⟩
  have hcl:clrM s=s:=if_neg hf
  rw [if_neg hf,hcl];exact ⟨rfl,M,σ.e,hM,rfl⟩
theorem trRun_spec {ρp ρd:PH} {P:Par} {t0 u:Int} {s:Ss} {pp pq:Option Addr} {cp cq:Nat} {M:Mm} {σ:S6} (hF:FixOK P t0 pp pq cp cq ρp ρd) (hI:RI P t0 s u) (hM:MOK P s M σ) (bs:Nat) :
  Eng.Spec Tryz.prog (fv 38) [.pointer (some ⟨bs,0,none⟩)] [ρp,ρd] [sesB pp pq cp cq P s M bs,σ.a,σ.b,σ.c,σ.d,σ.e,σ.f] (fun r H'=>r=.tuple #[]∧∃ s' M' σ' u',Runs P s s'∧RI P t0 s' u'∧nextM s'=none∧MOK P s' M' σ'∧H'=[sesB pp pq cp cq P s' M' bs,σ'.a,σ'.b,σ'.c,σ'.d,σ'.e,σ'.f]):=by
 have hP:=hF.ok
 have hcr:=chkCt_rg hP.hc
 have hcs:=chkCt_se hP.hc
 have h0:=hP.h0
 have h2:=hP.h2
 refine spec_in (cap:=[]) Tryz.func38 rfl rfl Tryz.ntmps38 rfl envZ (fun N β=>?_)
 refine Aab ?_;refine BG (trNextM_spec hP hI hM bs) rfl rfl takesZ rdZ rfl rfl ?_;rintro _ _ ⟨rfl,M0,ρ0,hM0,rfl⟩;refine Aa1 ?_;refine A8 ?_
 refine BX [0] (X:=Ss × Mm × S6 × Int) (s,M0,{ σ with e:=ρ0 },u) (fun z=>RI P t0 z.1 z.2.2.2∧MOK P (clrM z.1) z.2.1 z.2.2.1∧∀ s',Runs P z.1 s'→Runs P s s') (fun z=>[(2,int ((nextM (clrM z.1)).getD 0)),(3,.bool (nextM (clrM z.1)).isSome)]) (fun z=>[sesB pp pq cp cq P (clrM z.1) z.2.1 bs,z.2.2.1.a,z.2.2.1.b,z.2.2.1.c,z.2.2.1.d,z.2.2.1.e,z.2.2.1.f]) (fun z=>(2199023255554-z.2.2.2).toNat) pickZ ⟨hI,hM0,fun _ h=>h⟩ covZ selZ ?_
 rintro ⟨s1,M1,σ1,u1⟩ ⟨hI1,hM1,hR1⟩
 dsimp only at hI1 hM1 hR1 ⊢
 rcases hnx:nextM (clrM s1) with _|t
 ·refine AD ?_
  refine Aab ?_;refine AE ?_;refine Aay ?_;exact BW (H':=[sesB pp pq cp cq P (clrM s1) M1 bs,σ1.a,σ1.b,σ1.c,σ1.d,σ1.e,σ1.f]) (res0 rfl) rsubZ selZ ⟨rfl,clrM s1,M1,σ1,u1,hR1 _ (Runs.stop hnx),hI1.clr,hnx,hM1,rfl⟩
 obtain ⟨⟨a1,a2,a3,a4,a5⟩,⟨b1,b2,b3,b4⟩,⟨c1,c2,c3,c4,c5⟩,⟨d1,d2⟩,⟨e1,e2⟩⟩:=RI.mid hP hI1 hnx (s0:={ clrM s1 with now:=t }) (s1:=st1 P { clrM s1 with now:=t }) (s2:=st2 P { clrM s1 with now:=t }) (s3:=st3 P { clrM s1 with now:=t }) (s4:=st4 P { clrM s1 with now:=t }) rfl rfl rfl rfl rfl
 have hM2:MOK P { clrM s1 with now:=t } M1 σ1:=⟨hM1.d,hM1.dm,hM1.d1,hM1.r,hM1.rm,hM1.r1,hM1.o0,hM1.o1,hM1.om,hM1.o2,hM1.w,hM1.a,hM1.k⟩
 have hgd:(some t).getD 0=t:=rfl
 rw [hgd]
 have hu1:=hI1.u1
 unfold sesB
 dsimp only
 refine Aah ?_;refine Aal ?_;refine AN ?_;refine Aa4 ?_;refine Aar ?_;refine Aa2 ?_;refine BA ?_; rintro _ _ ⟨rfl,rfl⟩;refine Ab3 ?_
 change JK _ _ _ (sesB pp pq cp cq P { clrM s1 with now:=t } M1 bs::_) _ _
 generalize ({ clrM s1 with now:=t }:Ss)=s0 at *
 refine AW trSteps_spec rfl rfl rdZ rfl rfl ?_;rintro _ rfl;refine Abt ?_
 refine BX [0,21] (X:=Nat × Mm × S6) (0,M1,σ1) (fun z=>z.1≤4∧MOK P (stg P s0 z.1) z.2.1 z.2.2) (fun z=>[(22,int (z.1:Int))]) (fun z=>[sesB pp pq cp cq P (stg P s0 z.1) z.2.1 bs,z.2.2.a,z.2.2.b,z.2.2.c,z.2.2.d,z.2.2.e,z.2.2.f]) (fun z=>4-z.1) pickZ ⟨by omega,hM2⟩ covZ selZ ?_
 rintro ⟨i,M3,σ3⟩ ⟨hi,hM3⟩
 dsimp only at hi hM3 ⊢
 by_cases hlt:i<4
 ·have hcase:i=0∨i=1∨i=2∨i=3:=by omega
  rcases hcase with rfl|rfl|rfl|rfl
  ·refine AD ?_
   refine AA ?_;refine Abj ?_;refine Aa ?_
   focus ((refine BQ (E7 (i:=0) (n:=4) rfl rfl rfl rfl rfl (by decide) rfl) rfl rfl rfl ?_))
   refine Aaa ?_;refine Ab5 ?_
   refine BG (trTransmit_spec (ld:=t) (lr:=t) (lt:=t) hF (by rw [b1]; exact b2) (by rw [b1]; exact a3) (by omega) (by omega) ⟨b3,b4⟩ hM3 bs) rfl rfl takesZ rdZ rfl rfl ?_
   rintro _ _ ⟨rfl,M4,σ4,hM4,rfl⟩;refine AE ?_;refine Abc ?_
   exact BH (1,M4,σ4) ⟨by dsimp only; omega,hM4⟩ (by dsimp only; omega) covZ selZ
  ·refine AD ?_
   refine AA ?_;refine Abj ?_;refine Aa ?_
   focus ((refine BQ (E7 (i:=1) (n:=4) rfl rfl rfl rfl rfl (by decide) rfl) rfl rfl rfl ?_))
   refine Aaa ?_;refine Ab5 ?_
   refine BG (trDeliver_spec (n:=t) hF c2 c3 c1 (by omega) (by omega) (by omega) ⟨c4,c5⟩ hM3 bs) rfl rfl takesZ rdZ rfl rfl ?_
   rintro _ _ ⟨rfl,M4,σ4,hM4,rfl⟩;refine AE ?_;refine Abc ?_
   exact BH (2,M4,σ4) ⟨by dsimp only; omega,hM4⟩ (by dsimp only; omega) covZ selZ
  ·refine AD ?_
   refine AA ?_;refine Abj ?_;refine Aa ?_
   focus ((refine BQ (E7 (i:=2) (n:=4) rfl rfl rfl rfl rfl (by decide) rfl) rfl rfl rfl ?_))
   refine Aaa ?_;refine Ab5 ?_
   refine BG (trListen_spec (n:=t) hP d2 d1 (by omega) (by omega) hM3 bs) rfl rfl takesZ rdZ rfl rfl ?_
   rintro _ _ ⟨rfl,M4,σ4,hM4,rfl⟩;refine AE ?_;refine Abc ?_
   exact BH (3,M4,σ4) ⟨by dsimp only; omega,hM4⟩ (by dsimp only; omega) covZ selZ
  ·refine AD ?_
   refine AA ?_;refine Abj ?_;refine Aa ?_
   focus ((refine BQ (E7 (i:=3) (n:=4) rfl rfl rfl rfl rfl (by decide) rfl) rfl rfl rfl ?_))
   refine Aaa ?_;refine Ab5 ?_
   have hex:=trExpire_spec (y0:=int P.c.g) (y1:=.slice M3.p0 M3.F.length M3.c0) (y2:=int (st3 P s0).dat.sent) (y3:=int (st3 P s0).dat.lost) (y4:=int P.c.g) (y5:=.slice M3.p1 M3.G.length M3.c1) (y6:=int (st3 P s0).rep.sent) (y7:=int (st3 P s0).rep.lost) (y13:=.slice M3.p2 (st3 P s0).out0.length M3.c2) (y14:=.slice M3.p3 M3.O.length M3.c3) (y31:=int 0) (y32:=int (totR P.d (st3 P s0).K)) (y33:=.slice M3.p5 (st3 P s0).K.length M3.c5) (y34:=str (datR P.d (st3 P s0).K)) (y36:=.bool (st3 P s0).rcvd) (y37:=int (st3 P s0).arr) (y38:=.bool (st3 P s0).kn) (y39:=int (st3 P s0).knAt) (pp:=pp) (pq:=pq) (cp:=cp) (cq:=cq) hP e2.sn hM3.a hM3.w (fun hw hd=>exp_nil hP (s:=st3 P s0) (by rw [e1]; exact e2) hw hd) (by rw [e1]; omega) bs
   obtain ⟨eb,er,ed,es,W,hE⟩:=expM_frame P (st3 P s0)
   have e4:st4 P s0={ st3 P s0 with snd:=⟨eb,er,ed,es,(st3 P s0).snd.K⟩,wait:=W }:=hE
   rw [hE] at hex
   dsimp only at hex
   refine BG hex rfl rfl takesZ rdZ rfl rfl ?_;rintro _ _ ⟨rfl,pw,cw,σw,hQ,rfl⟩;refine AE ?_;refine Abc ?_
   change JK _ _ _ (sesB pp pq cp cq P { st3 P s0 with snd:=⟨eb,er,ed,es,(st3 P s0).snd.K⟩,wait:=W } { M3 with p6:=pw,c6:=cw } bs::_) _ _
   rw [← e4]
   exact BH (4,{ M3 with p6:=pw,c6:=cw },{ σ3 with e:=σw }) ⟨by dsimp only; omega,by show MOK P (st4 P s0) _ _; rw [e4]; exact ⟨hM3.d,hM3.dm,hM3.d1,hM3.r,hM3.rm,hM3.r1,hM3.o0,hM3.o1,hM3.om,hM3.o2,hQ,hM3.a,hM3.k⟩⟩ (by dsimp only; omega) covZ selZ
 obtain rfl:i=4:=by omega
 refine Aby ?_;refine Aa9 ?_;refine AB ?_;refine BG (trNextM_spec hP a5 hM3 bs) rfl rfl takesZ rdZ rfl rfl ?_;rintro _ _ ⟨rfl,M5,ρ5,hM5,rfl⟩;refine Aa1 ?_
 exact BH (st4 P s0,M5,{ σ3 with e:=ρ5 },t+1) ⟨a5,hM5,fun s' h=>hR1 s' (Runs.step hnx (by rw [← a4]; exact h))⟩ (by dsimp only; omega) covZ selZ
def startE (P:Par) (t0:Int):Int:=if P.limit < -1 then 2 else if chkI P.dark≠0 then 1 else stE P.c P.d t0 P.e
theorem trStart_spec {ρp ρd:PH} {P:Par} {t0:Int} {pp pq:Option Addr} {cp cq:Nat} (hp:IntsAt ρp (.slice pp P.picks.length cp) P.picks) (hpk:∀ x∈P.picks,-9223372036854775808≤x∧x≤9223372036854775807) (hpl:P.picks.length≤1000) (hq:SpAt ρd (.slice pq P.dark.length cq) P.dark) (hql:P.dark.length≤1000) (hn:P.d.length≤990) :
  Eng.Spec Tryz.prog (fv 15) [.agg #[int P.c.f,int P.c.t,int P.c.s,int P.c.e,int P.c.r,int P.c.g,int P.c.l],int t0,int P.e,str P.d,.slice pp P.picks.length cp,int P.limit,.slice pq P.dark.length cq] [ρp,ρd] [] (fun r H'=>(startE P t0≠0∧r=.tuple #[.pointer none,int (startE P t0)]∧H'=[])∨(startE P t0=0∧okP P t0∧(endG P.c.r t0 (bat 1 (pcsAll (missI P.d.length []))))≤P.e∧∃ bs s' M' σ' u',Runs P (beginM P t0) s'∧RI P t0 s' u'∧nextM s'=none∧MOK P s' M' σ'∧r=.tuple #[.pointer (some ⟨bs,0,none⟩),int 0]∧H'=[sesB pp pq cp cq P s' M' bs,σ'.a,σ'.b,σ'.c,σ'.d,σ'.e,σ'.f])):=by
 have hck:=ivCheck_spec ρd _ P.dark hq (by omega)
 have hst:=sndStart_spec P.c (se:=0) (t0:=t0) (e:=P.e) (d:=P.d) hn ⟨by omega,by omega⟩
 refine spec_in (cap:=[]) Tryz.func15 rfl rfl Tryz.ntmps15 rfl envZ (fun N β=>?_)
 refine Aa ?_;refine BK (BM rfl) rfl rfl rfl ?_;rintro _ _ ⟨b7,rfl,rfl⟩;refine AZ (ρ:=sng b7 _) takeZ ?_
 have cc:=rdB b7 23 [int P.c.f,int P.c.t,int P.c.s,int P.c.e,int P.c.r,int P.c.g,int P.c.l]
 have cc0:=rdC cc 0
 have cc1:=rdC cc 1
 have cc2:=rdC cc 2
 have cc3:=rdC cc 3
 have cc4:=rdC cc 4
 have cc5:=rdC cc 5
 have cc6:=rdC cc 6
 refine Aai ?_;refine Aa4 ?_;refine Aab ?_;refine BF ?_;refine BP ?_;refine Ab8 ?_;refine Aab ?_
 by_cases hlim:P.limit < -1
 ·have hE:startE P t0=2:=if_pos hlim
  rw [hE];refine CC ?_;refine Aaa ?_;refine A5 rfl ?_;refine Acg ?_
  exact AK (H':=[]) (res2 rfl rfl rfl) rsubZ selZ (.inl ⟨by omega,rfl,rfl⟩)
 refine BN ?_;refine Ab8 ?_;refine Aab ?_;refine AW hck rfl rfl rdZ rfl rfl ?_;rintro _ rfl
 by_cases hdk:chkI P.dark=0
 rotate_left
 ·have hE:startE P t0=1:=(if_neg hlim).trans (if_pos hdk)
  rw [hE]
  generalize chkI P.dark=er at hdk
  refine DB ?_;refine Aaa ?_;refine A5 rfl ?_;refine Acg ?_
  exact AK (H':=[]) (res2 rfl rfl rfl) rsubZ selZ (.inl ⟨by omega,rfl,rfl⟩)
 have hE:startE P t0=stE P.c P.d t0 P.e:=(if_neg hlim).trans (if_neg (fun h=>h hdk))
 rw [hdk,hE];refine BJ ?_;refine Aaa ?_;refine Aaf ?_;refine BI ?_;refine Aaz ?_;refine Abl ?_
 refine BG hst rfl rfl Takes.nil (fun τ hτ=>by simp at hτ) rfl rfl ?_
 rintro _ _ (⟨hE0,rfl,rfl⟩|⟨hE0,⟨hc,hn1,k1,k2,k3,hok⟩,pw,cw,σw,rfl,hO,rfl⟩)
 ·generalize stE P.c P.d t0 P.e=er at hE0
  refine Aaw ?_;refine AI ?_;refine A6 ?_; rintro _ _ ⟨b,rfl,rfl⟩;refine AX ?_; rintro _ _ ⟨rfl,rfl⟩;refine Aai ?_;refine Aah ?_;refine DB ?_;refine Aal ?_;refine Aab ?_;refine Aai ?_;exact AK (H':=[]) (res2 rfl rfl rfl) rsubZ selZ (.inl ⟨hE0,rfl,rfl⟩)
 rw [hE0]
 obtain ⟨hr,hgg,hce⟩:=chkCt_rg hc
 have hP:okP P t0:=⟨hc,hn1,hn,k1,k2,k3⟩
 have hRI:=RI.begin hP hok
 have hM0:MOK P (beginM P t0) ⟨[],[],[],none,none,none,none,none,none,pw,0,0,0,0,0,0,cw⟩ ⟨emp,emp,emp,emp,σw,emp⟩:=
  ⟨OwnS.nil _ _,rfl,fun f hf=>absurd hf (by simp),OwnS.nil _ _,rfl,fun f hf=>absurd hf (by simp),OwnS.nil _ _,OwnS.nil _ _,rfl,fun f hf=>absurd hf (by simp),OwnQ.ofS hO,⟨rfl,.inl ⟨rfl,none,0,rfl⟩⟩,⟨rfl,.inl ⟨rfl,none,0,rfl⟩⟩⟩
 have hF:FixOK P t0 pp pq cp cq ρp ρd:=⟨hP,hp,hpk,hpl,hq,hdk⟩
 have htl:=timed_len P.c.r (bat 1 (pcsAll (missI P.d.length []))) t0
 have hrun:=fun bs=>trRun_spec hF hRI hM0 bs
 rw [← htl]
 generalize hXX:timed P.c.r t0 (bat 1 (pcsAll (missI P.d.length [])))=X at *
 generalize hEE:(endG P.c.r t0 (bat 1 (pcsAll (missI P.d.length []))))=E at *
 refine Aaw ?_;refine AI ?_;refine A6 ?_; rintro _ _ ⟨b,rfl,rfl⟩;refine AX ?_; rintro _ _ ⟨rfl,rfl⟩;refine Aai ?_;refine Aco ?_;refine Aao ?_;refine AW (lnkNew_spec hgg) rfl rfl rdZ rfl rfl ?_;rintro _ rfl;refine Aaw ?_;refine A6 ?_; rintro _ _ ⟨b,rfl,rfl⟩;refine AX ?_; rintro _ _ ⟨rfl,rfl⟩;refine Aaa ?_;refine Aa ?_;refine AW rcvNew_spec rfl rfl rdZ rfl rfl ?_;rintro _ rfl;refine Aaw ?_;refine A6 ?_; rintro _ _ ⟨b,rfl,rfl⟩;refine AX ?_; rintro _ _ ⟨rfl,rfl⟩;refine Acx ?_;refine AV ?_;refine Abl ?_
 focus ((refine BQ (CE (out:=[int P.c.g,.slice none 0 0,int 0,int 0,int P.c.g,.slice none 0 0,int 0,int 0,.slice pp P.picks.length cp,int P.limit,.slice pq P.dark.length cq,int 0,int 0,.slice none 0 0,.slice none 0 0]) rfl rfl rfl rfl rfl) rfl rfl rfl ?_))
 refine AV ?_;refine AV ?_;refine AB ?_
 focus ((refine BQ (CE (out:=[int P.c.g,.slice none 0 0,int 0,int 0,int P.c.g,.slice none 0 0,int 0,int 0,.slice pp P.picks.length cp,int P.limit,.slice pq P.dark.length cq,int 0,int 0,.slice none 0 0,.slice none 0 0,int 0,int P.c.f,int P.c.t,int P.c.s,int P.c.e,int P.c.r,int P.c.g,int P.c.l,int 0,str P.d,int P.e,int E,int 1,.slice none 0 0,int (E+2*P.c.g+1),int 1,int 0,int (-1),.slice none 0 0,str [],.slice pw X.length cw,.bool false,int 0,.bool false,int 0]) rfl rfl rfl rfl rfl) rfl rfl rfl ?_))
 refine DC ?_; rintro _ _ ⟨b,rfl,rfl⟩;refine Ab1 ?_
 revert b; intro bs
 subst hXX;subst hEE
 change JK _ _ _ (sesB pp pq cp cq P (beginM P t0) ⟨[],[],[],none,none,none,none,none,none,pw,0,0,0,0,0,0,cw⟩ bs::_) _ _
 refine CB ?_;refine CB ?_;refine CB ?_;refine CB ?_;refine CB ?_;refine BG (hrun bs) rfl rfl takesZ rdZ rfl rfl ?_;rintro _ _ ⟨rfl,s',M',σ',u',g1,g2,g3,g4,rfl⟩;refine Abu ?_;refine Aai ?_;exact AK (H':=[sesB pp pq cp cq P s' M' bs,σ'.a,σ'.b,σ'.c,σ'.d,σ'.e,σ'.f]) (res2 rfl rfl rfl) rsubZ selZ (.inr ⟨rfl,hP,hok,bs,s',M',σ',u',g1,g2,g3,g4,rfl,rfl⟩)
theorem trRunO_spec {ρp ρd:PH} {P:Par} {t0:Int} {pp pq:Option Addr} {cp cq:Nat} (hp:IntsAt ρp (.slice pp P.picks.length cp) P.picks) (hpk:∀ x∈P.picks,-9223372036854775808≤x∧x≤9223372036854775807) (hpl:P.picks.length≤1000) (hq:SpAt ρd (.slice pq P.dark.length cq) P.dark) (hql:P.dark.length≤1000) (hn:P.d.length≤990) :
  Eng.Spec Tryz.prog (fv 5) [.agg #[int P.c.f,int P.c.t,int P.c.s,int P.c.e,int P.c.r,int P.c.g,int P.c.l],int t0,int P.e,str P.d,.slice pp P.picks.length cp,int P.limit,.slice pq P.dark.length cq] [ρp,ρd] [] (fun r H'=>H'=[]∧((startE P t0≠0∧r=.tuple #[.agg #[.bool false,int 0,.bool false,int 0,int 0,int 0,int 0],int (startE P t0)])∨(startE P t0=0∧okP P t0∧(endG P.c.r t0 (bat 1 (pcsAll (missI P.d.length []))))≤P.e∧∃ s' u',Runs P (beginM P t0) s'∧RI P t0 s' u'∧nextM s'=none∧r=.tuple #[.agg #[.bool s'.rcvd,int s'.arr,.bool s'.kn,int s'.knAt,int s'.snd.busy,int s'.ent,int (s'.dat.lost+s'.rep.lost)],int 0]))):=by
 have hst:=trStart_spec (t0:=t0) hp hpk hpl hq hql hn
 refine spec_in (cap:=[]) Tryz.func5 rfl rfl Tryz.ntmps5 rfl envZ (fun N β=>?_)
 refine Aa ?_;refine BK (BM rfl) rfl rfl rfl ?_;rintro _ _ ⟨b7,rfl,rfl⟩;refine AZ (ρ:=sng b7 _) takeZ ?_
 have cc:=rdB b7 23 [int P.c.f,int P.c.t,int P.c.s,int P.c.e,int P.c.r,int P.c.g,int P.c.l]
 have cc0:=rdC cc 0
 have cc1:=rdC cc 1
 have cc2:=rdC cc 2
 have cc3:=rdC cc 3
 have cc4:=rdC cc 4
 have cc5:=rdC cc 5
 have cc6:=rdC cc 6
 refine A6 ?_; rintro _ _ ⟨b,rfl,rfl⟩;refine Acx ?_;refine Aak ?_;refine Aak ?_;refine Aak ?_
 revert b; intro b14
 refine BG hst rfl rfl Takes.nil rdZ rfl rfl ?_;rintro _ _ (⟨hE,rfl,rfl⟩|⟨hE,hP,hok,bs,s',M',σ',u',g1,g2,g3,g4,rfl,rfl⟩)
 ·generalize startE P t0=er at hE ⊢
  refine Ada ?_;refine DB ?_;refine Acr ?_;refine B5 ?_;refine AB ?_;refine AX ?_; rintro _ _ ⟨rfl,rfl⟩;refine Aaa ?_;exact AK (H':=[]) (resSE (b1:=b14) (T:=28) (v1:=[.bool false,int 0,.bool false,int 0,int 0,int 0,int 0]) rfl rfl rfl rfl rfl (cells_own memZ)) rsubZ selZ ⟨rfl,.inl ⟨hE,rfl⟩⟩
 have hcr:=chkCt_rg hP.hc
 have hS:=g2.si
 have hen:=hS.en
 have hl0:=hS.dat.lst
 have hl1:=hS.rep.lst
 unfold sesB;refine Aa1 ?_;refine Aco ?_;refine AD ?_
 refine BD (.q 0 (.q 1 (.q 2 (.q 3 (.q 4 (.q 5 (.q 6 (.q 7 (.q 8 (.q 9 (.q 10 (.q 11 (.q 12 (.q 13 (.q 14 (.q 15 (.q 16 (.q 17 (.q 18 (.q 19 (.q 20 (.q 21 (.q 22 (.q 23 (.q 24 (.q 25 (.q 26 (.q 27 (.q 28 (.q 29 (.q 30 (.q 31 (.q 32 (.q 33 (.q 34 (.q 35 (.q 36 (.q 37 (.q 38 (.q 39 (.l 40 .b (.q 41 .nil)))))))))))))))))))))))))))))))))))))))))) [] rfl (by kernel_rfl) Sel.nil ?_
 refine Ab2 ?_;refine Ab2 ?_;refine Add ?_;refine Abz ?_;refine Aaj ?_;refine Abz ?_;refine AU ?_;refine Aaj ?_;refine Abz ?_;refine AU ?_;refine Ace ?_;refine EL ?_;refine DT ?_;refine BL ?_;refine' CG rfl _ rfl rfl _ _
 rotate_left
 ·apply A9; exact rfl; exact rfl; exact takeZ; exact oneZ; exact rfl; exact rfl
 ·rintro _ _ ⟨_,rfl⟩ w hw; exact hw.sel Sel.nil
 rintro _ _ ⟨rfl,rfl⟩;refine Aam ?_
 skip
 exact AK (H':=[]) (resSE (b1:=b14) (T:=28) (v1:=[.bool s'.rcvd,int s'.arr,.bool s'.kn,int s'.knAt,int s'.snd.busy,int s'.ent,int (s'.dat.lost+s'.rep.lost)]) rfl rfl rfl rfl rfl (cells_own memZ)) rsubZ selZ ⟨rfl,.inr ⟨hE,hP,hok,s',u',g1,g2,g3,rfl⟩⟩
theorem trFrames_spec {ρp ρd:PH} {P:Par} {t0:Int} {pp pq:Option Addr} {cp cq:Nat} (hp:IntsAt ρp (.slice pp P.picks.length cp) P.picks) (hpk:∀ x∈P.picks,-9223372036854775808≤x∧x≤9223372036854775807) (hpl:P.picks.length≤1000) (hq:SpAt ρd (.slice pq P.dark.length cq) P.dark) (hql:P.dark.length≤1000) (hn:P.d.length≤990) :
  Eng.Spec Tryz.prog (fv 6) [.agg #[int P.c.f,int P.c.t,int P.c.s,int P.c.e,int P.c.r,int P.c.g,int P.c.l],int t0,int P.e,str P.d,.slice pp P.picks.length cp,int P.limit,.slice pq P.dark.length cq] [ρp,ρd] [] (fun r H'=>(startE P t0≠0∧r=.tuple #[.slice none 0 0,.slice none 0 0,int (startE P t0)]∧H'=[])∨(startE P t0=0∧okP P t0∧(endG P.c.r t0 (bat 1 (pcsAll (missI P.d.length []))))≤P.e∧∃ s' M' σ' u',Runs P (beginM P t0) s'∧RI P t0 s' u'∧nextM s'=none∧MOK P s' M' σ'∧r=.tuple #[.slice M'.p2 s'.out0.length M'.c2,.slice M'.p3 M'.O.length M'.c3,int 0]∧H'=[σ'.c,σ'.d,σ'.f])):=by
 have hst:=trStart_spec (t0:=t0) hp hpk hpl hq hql hn
 refine spec_in (cap:=[]) Tryz.func6 rfl rfl Tryz.ntmps6 rfl envZ (fun N β=>?_)
 refine Aa ?_;refine BK (BM rfl) rfl rfl rfl ?_;rintro _ _ ⟨b7,rfl,rfl⟩;refine AZ (ρ:=sng b7 _) takeZ ?_
 have cc:=rdB b7 23 [int P.c.f,int P.c.t,int P.c.s,int P.c.e,int P.c.r,int P.c.g,int P.c.l]
 have cc0:=rdC cc 0
 have cc1:=rdC cc 1
 have cc2:=rdC cc 2
 have cc3:=rdC cc 3
 have cc4:=rdC cc 4
 have cc5:=rdC cc 5
 have cc6:=rdC cc 6
 refine AC ?_;refine Aai ?_;refine Aaz ?_;refine Aak ?_;refine Aak ?_;refine Aak ?_;refine BG hst rfl rfl Takes.nil rdZ rfl rfl ?_;rintro _ _ (⟨hE,rfl,rfl⟩|⟨hE,hP,hok,bs,s',M',σ',u',g1,g2,g3,g4,rfl,rfl⟩)
 ·generalize startE P t0=er at hE ⊢
  refine Ada ?_;refine DB ?_;refine Aal ?_;refine Aab ?_;refine AC ?_;refine Aai ?_;exact AK (H':=[]) (res3 rfl rfl rfl rfl) rsubZ selZ (.inl ⟨hE,rfl,rfl⟩)
 unfold sesB;refine Aa1 ?_;refine Aco ?_;refine AD ?_
 refine BD (.q 0 (.q 1 (.q 2 (.q 3 (.q 4 (.q 5 (.q 6 (.q 7 (.q 8 (.q 9 (.q 10 (.q 11 (.q 12 (.q 13 (.q 14 .nil))))))))))))))) [] rfl (by kernel_rfl) Sel.nil ?_
 refine Abz ?_;refine AU ?_
 focus ((refine CF rfl (CL (i:=0) (m:=13) (s:=1) rfl rfl rfl rfl (by decide) rfl) rfl rfl rfl rfl ?_))
 refine AS ?_;refine Abz ?_;refine AU ?_
 focus ((refine CF rfl (CL (i:=1) (m:=14) (s:=1) rfl rfl rfl rfl (by decide) rfl) rfl rfl rfl rfl ?_))
 refine AS ?_;refine AP ?_;refine Abk ?_
 skip
 exact AK (H':=[σ'.c,σ'.d,σ'.f]) (res3 rfl rfl rfl rfl) rsubZ selZ (.inr ⟨hE,hP,hok,s',M',σ',u',g1,g2,g3,g4,rfl,rfl⟩)
end Go.Proofs.YtahbngakckbenaaGreatDoor
namespace Go.Step
open Go.Eng
def spG (x:Sg):Int × Int:=((x.a:Int),(x.b:Int))
theorem first_all {n:Nat} (hn:0<n) {L:List Sg} (hL:∀ g∈bat 1 (pcsAll (missI (n:Int) [])),g∈L) (t:Int) (h0:0≤t) (h1:t<n):memI (L.map spG) t=true:=by
  obtain ⟨q1,q2,_⟩:=miss_pcs (InI.nil (n:Int)) (by omega)
  have h2:memI (pcsAll (missI (n:Int) [])) t=true:=by
    rw [q2,decide_eq_true ⟨h0,h1⟩]
    rfl
  unfold memI at h2 ⊢;rw [List.any_eq_true] at h2 ⊢
  obtain ⟨p,hp,hpt⟩:=h2
  obtain ⟨i,hi⟩:=List.mem_iff_getElem?.1 hp
  have hb:=bat_get 1 (pcsAll (missI (n:Int) [])) i
  rw [hi] at hb
  have hg:=hL _ (List.mem_iff_getElem?.2 ⟨i,hb⟩)
  refine ⟨p,List.mem_map.2 ⟨_,hg,?_⟩,hpt⟩
  obtain ⟨k1,k2,k3⟩:=q1 p hp
  unfold spG
  dsimp only
  rw [Int.toNat_of_nonneg k1,Int.toNat_of_nonneg (by omega)]
theorem hear_all {n:Nat} (hn:0<n) {L:List Sg} (hok:∀ x∈L,okG n x) (hL:∀ g∈bat 1 (pcsAll (missI (n:Int) [])),g∈L):hearAll [] (L.map spG)=[((0:Int),(n:Int))]:=by
  obtain ⟨h1,h2⟩:=hearAll_ok (n:=(n:Int)) (P:=L.map spG) (InI.nil (n:Int)) (fun x hx=>by
    obtain ⟨g,hg,rfl⟩:=List.mem_map.1 hx
    obtain ⟨k1,k2,k3,k4,k5⟩:=hok g hg
    unfold spG
    dsimp only
    omega)
  refine h1.all (by omega) (fun t a b=>?_)
  rw [h2,first_all hn hL t a b]
  simp
theorem hear_in {n:Nat} {L:List Sg} (hok:∀ x∈L,okG n x):InI n (hearAll [] (L.map spG)):=
  (hearAll_ok (n:=(n:Int)) (P:=L.map spG) (InI.nil (n:Int)) (fun x hx=>by
    obtain ⟨g,hg,rfl⟩:=List.mem_map.1 hx
    obtain ⟨k1,k2,k3,k4,k5⟩:=hok g hg
    unfold spG
    dsimp only
    omega)).1
theorem hear_succ {L:List Sg} {i:Nat} {x:Sg} (h:L[i]?=some x):hearAll [] ((L.take (i+1)).map spG)=unionI (hearAll [] ((L.take i).map spG)) [((x.a:Int),(x.b:Int))]:=by
  rw [List.take_add_one,h];unfold hearAll;rw [List.map_append,List.foldl_append]
  rfl
structure EndOK (P:Par) (t0:Int) (s:Ss):Prop where
  ok:okP P t0
  o0:∀ x∈s.out0,t0<x.1∧x.1≤P.e∧okG P.d.length x.2
  en:s.ent=s.out0.length+s.out1.length
  lo:s.dat.lost+s.rep.lost≤s.ent
  kn:s.kn=true→s.rcvd=true
  o1:s.rcvd=false→∀ y∈s.out1,y.2.2≠[((0:Int),(P.d.length:Int))]
  fst:s.out0.length≤60→∀ g∈bat 1 (pcsAll (missI (P.d.length:Int) [])),g∈s.out0.map (·.2)
  le:s.ent≤10000
  o2:∀ y∈s.out1,y.2.2.length≤1000
theorem RI.fin {P:Par} {t0 u:Int} {s:Ss} (hP:okP P t0) (h:RI P t0 s u) (hn:nextM s=none):EndOK P t0 s:=by
  have hS:=h.si
  have en:=hS.en
  have l0:=hS.dat.lst
  have l1:=hS.rep.lst
  have hn1:=hP.n1
  refine ⟨hP,hS.o0,h.cv.en,by omega,fun hk=>?_,fun hr y hy e=>?_,fun hl g hg=>?_,by omega,fun y hy=>?_⟩
  · have:=hS.kn hk
    exact h.rc.2 (whole_sub hS.k (by omega) hS.sn.ks this)
  · have hy:=hS.o1 y hy
    have:=h.rc.2 (whole_sub hS.k (by omega) hy.2 e)
    rw [hr] at this
    cases this
  · rcases h.cv.cv with hc|hc
    · omega
    · rcases hc g hg with ⟨t,hc⟩|⟨t,hc⟩
      · exact List.mem_map.2 ⟨_,hc,rfl⟩
      · rw [next_wait hn] at hc
        cases hc
  · have:=(hS.o1 y hy).1.len (by omega)
    have:=hP.n2
    omega
theorem rot_all {L:List Sg} {k:Nat} {g:Sg} (h:g∈L):g∈L.drop k ++ L.take k:=by
  rw [← List.take_append_drop k L] at h
  rcases List.mem_append.1 h with h|h
  · exact List.mem_append.2 (.inr h)
  · exact List.mem_append.2 (.inl h)
def encGd (y:List UInt8 × Sg):List Value:=[int 1,int 0,int y.2.sr,int (y.2.a:Int),int (y.1.length:Int),.bool (decide (1≤y.2.sr)),str (cutD y.1 y.2.a y.2.b),.slice none 0 0]
theorem encGd_len (y:List UInt8 × Sg):(encGd y).length=8:=rfl
theorem encGd_map (d:List UInt8) (l:List Sg):(l.map (fun x=>(d,x))).flatMap encGd=l.flatMap (encG 0 d):=by
  rw [List.flatMap_map]
  rfl
theorem SlE.toGd {d:List UInt8} {s:Nat} {ρ:PH} {v:Value} {l:List Sg} (h:SlE (encG 0 d) s ρ v l):SlE encGd s ρ v (l.map (fun x=>(d,x))):=by
  unfold SlE at h ⊢;rw [encGd_map,List.length_map];exact h
theorem SlE.ofGd {d:List UInt8} {s:Nat} {ρ:PH} {v:Value} {l:List Sg} (h:SlE encGd s ρ v (l.map (fun x=>(d,x)))):SlE (encG 0 d) s ρ v l:=by
  unfold SlE at h ⊢;rw [encGd_map,List.length_map] at h;exact h
end Go.Step
namespace Go.Proofs.YtahbngakckbenaaGreatDoor
open Go.Eng Go.Step
set_option maxRecDepth 100000
set_option maxHeartbeats 64000000
theorem one_Gd (x:(List UInt8 × Sg)):∀ u∈encGd x,u.oneCell'=true:=by
 intro u hu
 simp only [encGd,List.mem_cons,List.not_mem_nil,or_false] at hu
 rcases hu with rfl|rfl|rfl|rfl|rfl|rfl|rfl|rfl <;> rfl
theorem ones_Gd (l:List (List UInt8 × Sg)):∀ u∈l.flatMap encGd,u.oneCell'=true:=by
 intro u hu
 rw [List.mem_flatMap] at hu
 obtain ⟨a,_,hu⟩:=hu
 exact one_Gd a u hu
theorem growGd_spec (n:Nat) (hn:n≤100000000):Makes Tryz.prog (fv 18) [.slice none 0 0,int n] [] (fun r σ=>OwnS 37 8 r 0 [] σ):=by
 refine spec_in (cap:=[]) Tryz.func18 rfl rfl Tryz.ntmps18 rfl envZ (fun N β=>?_)
 rcases Nat.eq_zero_or_pos n with h0|h0
 ·subst h0
  refine CB ?_;refine Ab0 ?_;refine BN ?_;refine Acm ?_;refine AB ?_;refine EN ?_;refine Ac0 ?_;refine DI ?_;refine DI ?_;refine Ab1 ?_;refine BP ?_;refine Aag ?_;refine Abn ?_;exact AK (res1 rfl rfl) rsubZ selZ ⟨emp,OwnS.nil _ _,rfl⟩
 ·have e0:(n:Int)-(((0:Nat):Int)-((0:Nat):Int))=(n:Int):=by omega
  refine Ab0 ?_;refine BN ?_;refine Acm ?_;refine AB ?_;refine EN ?_;refine Ac0 ?_;refine DI ?_;refine DI ?_;refine Ab1 ?_;refine C9 ?_;refine Aal ?_;refine Ab5 ?_;refine EN ?_;refine EC ?_;refine AB ?_
  focus ((rw [e0]))
  refine BK (FU (n:=n) (by_:=88) (s:=8) rfl rfl rfl rfl rfl rfl rfl rfl (by decide) h0 (by simp only [maxLen]; omega) (by omega)) rfl rfl rfl ?_
  rintro _ _ ⟨b,cap,cur,rfl,rfl,h1,h2,h3⟩
  have hcz:=cutP_zero b cap 8
  refine BQ (EW rfl) rfl rfl rfl ?_;refine BQ (GL rfl rfl) rfl rfl rfl ?_
  refine BQ (ES (i:=0) (s:=8) rfl rfl rfl rfl (by omega)) rfl rfl rfl ?_
  rw [hcz];refine Aaa ?_;refine Abn ?_;exact AK (res1 rfl rfl) rsubZ selZ ⟨_,OwnS.room h2 h3,rfl⟩
theorem concatGd_spec (τ:PH) (Rs:List PH) (v:Value) (vs:List Value) (ls:List (List (List UInt8 × Sg))) (hv:SlE encW 1 τ v vs) (hlen:vs.length=ls.length) (hall:∀ (i:Nat) (w:Value) (l:List (List UInt8 × Sg)),vs[i]?=some w→ls[i]?=some l→∃ σ∈Rs,SlE encGd 8 σ w l) (hk:vs.length≤1000) (ht:totL ls≤1000000) :
  Makes Tryz.prog (fv 8) [v] (τ::Rs) (fun r σ=>OwnS 37 8 r ls.flatten.length (ls.flatten.flatMap encGd) σ):=by
 obtain ⟨q,c,rfl,hr⟩:=hv.val encW_len
 refine spec_in (cap:=[]) Tryz.func8 rfl rfl Tryz.ntmps8 rfl envZ (fun N β=>?_)
 refine Aan ?_;refine Ab0 ?_;refine Abw ?_
 refine BX [0,9,10] (0:Nat) (fun k=>k≤vs.length) (fun k=>[(11,int k),(3,int ((totL (ls.take k):Nat):Int))]) (fun _=>[]) (fun k=>vs.length-k) pickZ (by omega) ⟨rfl,rfl,trivial⟩ selZ ?_
 rintro k hkk
 by_cases hlt:k<vs.length
 ·obtain ⟨w,hw⟩:∃ w,vs[k]?=some w:=⟨_,List.getElem?_eq_getElem hlt⟩
  obtain ⟨l,hl⟩:∃ l,ls[k]?=some l:=⟨_,List.getElem?_eq_getElem (by omega)⟩
  obtain ⟨σ,hσ,hS⟩:=hall k w l hw hl
  obtain ⟨p2,c2,rfl,_⟩:=hS.val encGd_len
  obtain ⟨b1,o1,rfl,hrd⟩:=hr k _ hw
  have g0:rdc τ b1 (o1+k)=some (.slice p2 l.length c2):=by have:=hrd.get0; rwa [Nat.mul_one] at this
  have hst:=totL_take ls k l hl
  have hle:=totL_le ls (k+1)
  have hsum:((totL (ls.take k):Nat):Int)+(l.length:Int)=((totL (ls.take (k+1)):Nat):Int):=by omega
  refine Ab7 ?_;refine DO ?_;refine AG ?_;refine Acd ?_;refine BF ?_;refine CA ?_;refine Ab1 ?_;refine BN ?_;refine Aag ?_;refine Abc ?_
  focus ((rw [hsum]))
  exact BH (k+1) (by omega) (by omega) covZ selZ
 ·have hkl:k=vs.length:=by omega
  subst hkl
  rw [List.take_of_length_le (by omega)]
  refine Aby ?_;refine Aab ?_
  refine B9 (growGd_spec (totL ls) (by omega)) rfl rfl rdZ rfl rfl ?_
  rintro u0 σ0 hO0;refine Aa7 ?_;refine Abw ?_
  refine BX [25,26] (X:=Nat × (Value × PH)) (0,(u0,σ0)) (fun x=>x.1≤vs.length∧OwnS 37 8 x.2.1 (ls.take x.1).flatten.length ((ls.take x.1).flatten.flatMap encGd) x.2.2) (fun x=>[(27,int x.1),(6,x.2.1)]) (fun x=>[x.2.2]) (fun x=>vs.length-x.1) pickZ ⟨by dsimp only; omega,by simpa using hO0⟩ covZ selZ ?_
  rintro ⟨k,⟨u,σ1⟩⟩ ⟨hk2,hO⟩
  dsimp only at hk2 hO ⊢
  by_cases hlt2:k<vs.length
  ·obtain ⟨w,hw⟩:∃ w,vs[k]?=some w:=⟨_,List.getElem?_eq_getElem hlt2⟩
   obtain ⟨l,hl⟩:∃ l,ls[k]?=some l:=⟨_,List.getElem?_eq_getElem (by omega)⟩
   obtain ⟨σ,hσ,hS⟩:=hall k w l hw hl
   have hS2:=hS
   obtain ⟨p2,c2,rfl,_⟩:=hS.val encGd_len
   obtain ⟨b1,o1,rfl,hrd⟩:=hr k _ hw
   have g0:rdc τ b1 (o1+k)=some (.slice p2 l.length c2):=by have:=hrd.get0; rwa [Nat.mul_one] at this
   have hst:=totL_take ls k l hl
   have hle:=totL_le ls (k+1)
   have hfl:=totL_flat (ls.take k)
   refine Ab7 ?_;refine DO ?_;refine AG ?_;refine Aaa ?_;refine Ab5 ?_
   refine BK (DE (by_:=88) (s:=8) (σ:=σ) (news:=l.flatMap encGd) (m:=l.length) rfl rfl rfl rfl rfl rfl rfl hO takeZ hS2 (fun b o h=>cells_of_mem (List.mem_cons_of_mem _ (List.mem_cons_of_mem _ hσ)) h) (ones_Gd l) (by simp only [maxLen]; omega) (by omega)) rfl rfl rfl ?_
   rintro u1 _ ⟨σ2,hO2,rfl⟩;refine Aaa ?_;refine Abc ?_
   refine BH (k+1,(u1,σ2)) ⟨by dsimp only; omega,?_⟩ (by dsimp only; omega) covZ selZ
   dsimp only
   rw [flat_succ ls k l hl,List.length_append,List.flatMap_append];exact hO2
  ·have hkl:k=vs.length:=by omega
   subst hkl
   rw [List.take_of_length_le (by omega)] at hO
   refine Aby ?_;refine Abn ?_;exact AK (res1 rfl rfl) rsubZ selZ ⟨σ1,hO,rfl⟩
structure Hd44 where
 i:Nat
 p:Option Addr
 k:Nat
 s:PH
theorem trHeard_spec {ρ:PH} {v:Value} {d:List UInt8} {l:List Sg} (hv:SlE (encG 0 d) 8 ρ v l) (hG:∀ x∈l,okG d.length x) (hn1:1≤d.length) (hn:d.length≤990) (hl:l.length≤1000000) :
  Eng.Spec Tryz.prog (fv 7) [v] [ρ] [] (fun r H'=>∃ p c σ,SpAt σ (.slice p (hearAll [] (l.map spG)).length c) (hearAll [] (l.map spG))∧r=.tuple #[.agg #[int 0,int (totR d (hearAll [] (l.map spG))),.slice p (hearAll [] (l.map spG)).length c,str (datR d (hearAll [] (l.map spG)))],.bool true]∧H'=[σ]):=by
 obtain ⟨pv,cv,rfl,hR⟩:=hv.val (encG_len 0 d)
 refine spec_in (cap:=[]) Tryz.func7 rfl rfl Tryz.ntmps7 rfl envZ (fun N β=>?_)
 refine Aa ?_;refine A6 ?_; rintro _ _ ⟨b,rfl,rfl⟩;refine Aaa ?_;refine Aa ?_
 revert b; intro b2
 refine AW rcvNew_spec rfl rfl rdZ rfl rfl ?_;rintro _ rfl;refine Aaw ?_;refine A6 ?_; rintro _ _ ⟨b,rfl,rfl⟩;refine AX ?_; rintro _ _ ⟨rfl,rfl⟩;refine Aa7 ?_;refine Abw ?_
 revert b; intro b4
 refine CB ?_
 refine BX [0,2,4,12,13] (X:=Hd44) ⟨0,none,0,emp⟩ (fun z=>z.i≤l.length∧OwnS 49 2 (.slice z.p (hearAll [] ((l.take z.i).map spG)).length z.k) (hearAll [] ((l.take z.i).map spG)).length ((hearAll [] ((l.take z.i).map spG)).flatMap encS) z.s) (fun z=>[(14,int (z.i:Int)),(5,int 0)]) (fun z=>[sng b4 (.cells #[int 0,int (totR d (hearAll [] ((l.take z.i).map spG))),.slice z.p (hearAll [] ((l.take z.i).map spG)).length z.k,str (datR d (hearAll [] ((l.take z.i).map spG)))] 41 (0,0)),sng b2 (.cells #[int 0,int 0,.slice none 0 0,str []] 41 (0,0)),z.s]) (fun z=>l.length-z.i) pickZ ⟨Nat.zero_le _,OwnS.nil _ _⟩ covZ selZ ?_
 rintro ⟨i,p,k,σK⟩ ⟨hi,hO⟩
 dsimp only at hi hO ⊢
 by_cases hlt:i<l.length
 ·have hx:=List.getElem?_eq_getElem hlt
  have hgx:=hG _ (List.getElem_mem hlt)
  generalize l[i]=x at hx hgx
  obtain ⟨b8,o8,rfl,hRd⟩:=hR i x hx
  have hRd:RdN ρ b8 (o8+i*8) [int 1,int 0,int x.sr,int (x.a:Int),int (d.length:Int),.bool (decide (1≤x.sr)),str (cutD d x.a x.b),.slice none 0 0]:=hRd
  have hK:=hear_in (fun y hy=>hG y (List.mem_of_mem_take hy):∀ y∈l.take i,okG d.length y)
  have hKs:=hear_succ hx
  obtain ⟨x1,x2,x3,x4,x5⟩:=hgx
  obtain ⟨hK2,_,hne⟩:=hK.put (a:=(x.a:Int)) (b:=(x.b:Int)) (by omega) (by omega) (by omega)
  have hhear:=trHear_spec (K':=unionI (hearAll [] ((l.take i).map spG)) [((x.a:Int),(x.b:Int))]) hO.at hK hn1 hn (show (0:Int)≤0∧(0:Int)≤1099511627776 by omega) ⟨x1,x2,x3,x4,x5⟩ rfl hne
  rw [← hKs] at hhear
  generalize hKi:(hearAll [] ((l.take i).map spG))=K at *
  generalize hKi2:hearAll [] ((l.take (i+1)).map spG)=K2 at *
  refine Ac8 ?_;refine A6 ?_; rintro _ _ ⟨b,rfl,rfl⟩;refine AX ?_; rintro _ _ ⟨rfl,rfl⟩;refine AE ?_;refine Aco ?_;refine AA ?_;refine AV ?_;refine AV ?_
  revert b; intro b7
  refine BG hhear rfl rfl Takes.nil rdZ rfl rfl ?_;rintro _ _ ⟨p1,c1,σ1,hO1,⟨_,rfl,rfl⟩|⟨_,p5,c5,σ5,bn,hO5,rfl,rfl⟩⟩
  ·refine AB ?_
   refine Aaq ?_;refine AI ?_;refine AX ?_; rintro _ _ ⟨rfl,rfl⟩;refine Aaa ?_;refine Abc ?_
   exact BH ⟨i+1,p1,c1,σ1⟩ ⟨by dsimp only; omega,by dsimp only; rw [hKi2]; exact hO1⟩ (by dsimp only; omega) covZ (by dsimp only; rw [hKi2]; exact selZ)
  ·refine AB ?_
   refine Aaq ?_;refine AI ?_;refine AX ?_; rintro _ _ ⟨rfl,rfl⟩;refine Aaa ?_;refine Abc ?_
   exact BH ⟨i+1,p1,c1,σ1⟩ ⟨by dsimp only; omega,by dsimp only; rw [hKi2]; exact hO1⟩ (by dsimp only; omega) covZ (by dsimp only; rw [hKi2]; exact selZ)
 have hie:i=l.length:=by omega
 subst hie;rw [List.take_of_length_le (Nat.le_refl _)] at hO ⊢;refine Aby ?_;refine Aaz ?_;refine AB ?_;refine CM ?_;refine AX ?_; rintro _ _ ⟨rfl,rfl⟩;refine Aaa ?_;exact AK (H':=[σK]) (resSE (b1:=b2) (T:=41) (v1:=[int 0,int (totR d (hearAll [] (l.map spG))),.slice p (hearAll [] (l.map spG)).length k,str (datR d (hearAll [] (l.map spG)))]) rfl rfl rfl rfl rfl (cells_own memZ)) rsubZ selZ ⟨p,k,σK,hO.at,rfl,rfl⟩
end Go.Proofs.YtahbngakckbenaaGreatDoor
namespace Go.Ev
open Go.Eng
inductive Tr (α:Type) where
  | e
  | n (v:Option α) (l r:Tr α)
noncomputable def Tr.get {α:Type} (t:Tr α):Nat→Option α:=
  Tr.rec (fun _=>none) (fun v _ _ ihl ihr k=>Bool.rec (Bool.rec (ihr (k / 2-1)) (ihl (k / 2)) ((k % 2).beq 1)) v (k.beq 0)) t
noncomputable def Tr.path {α:Type} (x:Option α) (f:Nat):Nat→Option (Tr α):=
  Nat.rec (fun _=>none) (fun _ ih k=>Bool.rec (Bool.rec (Option.rec none (fun r=>some (.n none .e r)) (ih (k / 2-1))) (Option.rec none (fun l=>some (.n none l .e)) (ih (k / 2))) ((k % 2).beq 1)) (some (.n x .e .e)) (k.beq 0)) f
noncomputable def Tr.put {α:Type} (f:Nat) (t:Tr α) (k:Nat) (x:Option α):Option (Tr α):=
  Tr.rec (motive:=fun _=>Nat→Option (Tr α)) (fun k=>Tr.path x f k) (fun v l r ihl ihr k=>Bool.rec (Bool.rec (Option.rec none (fun r'=>some (.n v l r')) (ihr (k / 2-1))) (Option.rec none (fun l'=>some (.n v l' r)) (ihl (k / 2))) ((k % 2).beq 1)) (some (.n x l r)) (k.beq 0)) t k
theorem bqr {β:Type} (a b:Nat) (x y:β):(Bool.rec y x (Nat.beq a b):β)=if a=b then x else y:=by
  by_cases h:a=b
  · subst h; rw [if_pos rfl,show Nat.beq a a=true from Nat.beq_refl a]
  · rw [if_neg h]
    cases e:Nat.beq a b with
    | true=>exact absurd (Nat.eq_of_beq_eq_true e) h
    | false=>rfl
theorem opr {α β:Type} (o:Option α) (g:α→β):(Option.rec none (fun a=>some (g a)) o:Option β)=o.map g:=by cases o <;> rfl
theorem bq {β:Type} (a b:Nat) (x y:β):(bif Nat.beq a b then x else y)=if a=b then x else y:=by
  by_cases h:a=b
  · subst h; rw [if_pos rfl,show Nat.beq a a=true from Nat.beq_refl a]; rfl
  · rw [if_neg h]
    cases e:Nat.beq a b with
    | true=>exact absurd (Nat.eq_of_beq_eq_true e) h
    | false=>rfl
theorem Tr.get_e {α:Type} (k:Nat):(Tr.e:Tr α).get k=none:=rfl
theorem Tr.get_n {α:Type} (v:Option α) (l r:Tr α) (k:Nat):(Tr.n v l r).get k=if k=0 then v else if k % 2=1 then l.get (k / 2) else r.get (k / 2-1):=by
  show (Bool.rec (Bool.rec (r.get (k / 2-1)) (l.get (k / 2)) ((k % 2).beq 1)) v (k.beq 0):Option α)=_
  rw [bqr,bqr]
theorem Tr.path_s {α:Type} (x:Option α) (f k:Nat):Tr.path x (f+1) k=if k=0 then some (.n x .e .e) else if k % 2=1 then (Tr.path x f (k / 2)).map (fun l=>.n none l .e) else (Tr.path x f (k / 2-1)).map (fun r=>.n none .e r):=by
  show (Bool.rec (Bool.rec (Option.rec none (fun r=>some (.n none .e r)) (Tr.path x f (k / 2-1))) (Option.rec none (fun l=>some (.n none l .e)) (Tr.path x f (k / 2))) ((k % 2).beq 1)) (some (.n x .e .e)) (k.beq 0):Option (Tr α))=_
  rw [bqr,bqr,opr,opr]
theorem Tr.put_n {α:Type} (f:Nat) (v:Option α) (l r:Tr α) (k:Nat) (x:Option α):Tr.put f (.n v l r) k x=if k=0 then some (.n x l r) else if k % 2=1 then (Tr.put f l (k / 2) x).map (fun l'=>.n v l' r) else (Tr.put f r (k / 2-1) x).map (fun r'=>.n v l r'):=by
  show (Bool.rec (Bool.rec (Option.rec none (fun r'=>some (.n v l r')) (Tr.put f r (k / 2-1) x)) (Option.rec none (fun l'=>some (.n v l' r)) (Tr.put f l (k / 2) x)) ((k % 2).beq 1)) (some (.n x l r)) (k.beq 0):Option (Tr α))=_
  rw [bqr,bqr,opr,opr]
theorem Tr.get_path {α:Type} (x:Option α):∀ (f k j:Nat) (t:Tr α),Tr.path x f k=some t→t.get j=if j=k then x else none:=by
  intro f
  induction f with
  | zero=>intro k j t h; simp [Tr.path] at h
  | succ f ih =>
    intro k j t h
    rw [Tr.path_s] at h
    by_cases hk:k=0
    · rw [if_pos hk,Option.some.injEq] at h
      subst h hk;rw [Tr.get_n]
      by_cases hj:j=0 <;> simp [hj,Tr.get_e]
    · rw [if_neg hk] at h
      by_cases h2:k % 2=1
      · rw [if_pos h2,Option.map_eq_some_iff] at h
        obtain ⟨l,hl,rfl⟩:=h
        rw [Tr.get_n,ih _ (j / 2) _ hl]
        by_cases hj:j=0
        · simp [hj,Ne.symm hk]
        · by_cases hj2:j % 2=1
          · by_cases e:j=k
            · simp [e,h2,hk]
            · have:j / 2≠k / 2:=by omega
              simp [hj,hj2,e,this]
          · have:j≠k:=fun e=>hj2 (e ▸ h2)
            simp [hj,hj2,this,Tr.get_e]
      · rw [if_neg h2,Option.map_eq_some_iff] at h
        obtain ⟨r,hr,rfl⟩:=h
        rw [Tr.get_n,ih _ (j / 2-1) _ hr]
        by_cases hj:j=0
        · simp [hj,Ne.symm hk]
        · by_cases hj2:j % 2=1
          · have:j≠k:=fun e=>h2 (e ▸ hj2)
            simp [hj,hj2,this,Tr.get_e]
          · by_cases e:j=k
            · simp [e,h2,hk]
            · have:j / 2-1≠k / 2-1:=by omega
              simp [hj,hj2,e,this]
theorem Tr.get_put {α:Type} (f:Nat) (x:Option α):∀ (t t':Tr α) (k j:Nat),Tr.put f t k x=some t'→t'.get j=if j=k then x else t.get j:=by
  intro t
  induction t with
  | e=>intro t' k j h; rw [Tr.get_path x f k j t' h]; rfl
  | n v l r ihl ihr =>
    intro t' k j h
    rw [Tr.put_n] at h
    by_cases hk:k=0
    · rw [if_pos hk,Option.some.injEq] at h
      subst h hk;rw [Tr.get_n,Tr.get_n]
      by_cases hj:j=0 <;> simp [hj]
    · rw [if_neg hk] at h
      by_cases h2:k % 2=1
      · rw [if_pos h2,Option.map_eq_some_iff] at h
        obtain ⟨l',hl,rfl⟩:=h
        rw [Tr.get_n,Tr.get_n,ihl _ _ (j / 2) hl]
        by_cases hj:j=0
        · simp [hj,Ne.symm hk]
        · by_cases hj2:j % 2=1
          · by_cases e:j=k
            · simp [e,h2,hk]
            · have:j / 2≠k / 2:=by omega
              simp [hj,hj2,e,this]
          · have:j≠k:=fun e=>hj2 (e ▸ h2)
            simp [hj,hj2,this]
      · rw [if_neg h2,Option.map_eq_some_iff] at h
        obtain ⟨r',hr,rfl⟩:=h
        rw [Tr.get_n,Tr.get_n,ihr _ _ (j / 2-1) hr]
        by_cases hj:j=0
        · simp [hj,Ne.symm hk]
        · by_cases hj2:j % 2=1
          · have:j≠k:=fun e=>h2 (e ▸ hj2)
            simp [hj,hj2,this]
          · by_cases e:j=k
            · simp [e,h2,hk]
            · have:j / 2-1≠k / 2-1:=by omega
              simp [hj,hj2,e,this]
/-! what is carried out at once: the same -/
def fN:Nat→Option Nat
  | 0=>some 0
  | n+1=>some (n+1)
theorem fN_eq (n:Nat):fN n=some n:=by cases n <;> rfl
def fZ:Int→Option Int
  | .ofNat n=>match fN n with
    | some m=>some (.ofNat m)
    | none=>none
  | .negSucc n=>match fN n with
    | some m=>some (.negSucc m)
    | none=>none
theorem fZ_eq (n:Int):fZ n=some n:=by cases n <;> simp [fZ,fN_eq]
noncomputable def fB (l:List UInt8):Option (List UInt8):=
  List.rec (some []) (fun b _ ih=>Option.rec none (fun n=>Option.rec none (fun l'=>some (UInt8.ofNat n::l')) ih) (fN b.toNat)) l
theorem fB_eq (l:List UInt8):fB l=some l:=by
  induction l with
  | nil=>rfl
  | cons b l ih =>
    show (Option.rec none (fun n=>Option.rec none (fun l'=>some (UInt8.ofNat n::l')) (fB l)) (fN b.toNat):Option (List UInt8))=_
    rw [ih,fN_eq]; simp
def fA:Option Addr→Option (Option Addr)
  | none=>some none
  | some ⟨i,o,s⟩=>match fN i,fN o,s with
    | some i',some o',none=>some (some ⟨i',o',none⟩)
    | some i',some o',some s=>some (some ⟨i',o',some s⟩)
    | _,_,_=>none
theorem fA_eq (a:Option Addr):fA a=some a:=by
  rcases a with _|⟨i,o,_|s⟩ <;> simp [fA,fN_eq]
noncomputable def fV1:Value→Option Value
  | .bool true=>some (.bool true)
  | .bool false=>some (.bool false)
  | .int k n=>match fZ n with
    | some m=>some (.int k m)
    | none=>none
  | .string ⟨⟨l⟩⟩=>match fB l with
    | some l'=>some (.string ⟨⟨l'⟩⟩)
    | none=>none
  | .pointer a=>match fA a with
    | some a'=>some (.pointer a')
    | none=>none
  | .slice a n c=>match fA a,fN n,fN c with
    | some a',some n',some c'=>some (.slice a' n' c')
    | _,_,_=>none
  | v=>some v
theorem fV1_eq (v:Value):fV1 v=some v:=by
  cases v with
  | bool b=>cases b <;> rfl
  | string s=>obtain ⟨⟨l⟩⟩:=s; simp [fV1,fB_eq]
  | _=>simp [fV1,fZ_eq,fA_eq,fN_eq]
noncomputable def fL1 (l:List Value):Option (List Value):=
  List.rec (some []) (fun a _ ih=>Option.rec none (fun a'=>Option.rec none (fun l'=>some (a'::l')) ih) (fV1 a)) l
theorem fL1_eq (l:List Value):fL1 l=some l:=by
  induction l with
  | nil=>rfl
  | cons b l ih =>
    show (Option.rec none (fun a'=>Option.rec none (fun l'=>some (a'::l')) (fL1 l)) (fV1 b):Option (List Value))=_
    rw [ih,fV1_eq]
noncomputable def fV:Value→Option Value
  | .agg ⟨l⟩=>match fL1 l with
    | some l'=>some (.agg ⟨l'⟩)
    | none=>none
  | .tuple ⟨l⟩=>match fL1 l with
    | some l'=>some (.tuple ⟨l'⟩)
    | none=>none
  | .func f ⟨l⟩ ⟨m⟩=>match fL1 l,fL1 m with
    | some l',some m'=>some (.func f ⟨l'⟩ ⟨m'⟩)
    | _,_=>none
  | v=>fV1 v
theorem fV_eq (v:Value):fV v=some v:=by
  cases v with
  | agg c=>obtain ⟨l⟩:=c; simp [fV,fL1_eq]
  | tuple c=>obtain ⟨l⟩:=c; simp [fV,fL1_eq]
  | func f c d=>obtain ⟨l⟩:=c; obtain ⟨m⟩:=d; simp [fV,fL1_eq]
  | _=>simp [fV,fV1_eq]
end Go.Ev
