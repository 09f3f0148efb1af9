/- Texts of this proof, one after the other; no conditions. -/
import Derived.Test.YtahbngakckbenaaGreatDoorWB1
import Derived.Test.YtahbngakckbenaaGreatDoorWB3
import Derived.Test.YtahbngakckbenaaGreatDoorWB2
set_option linter.all false
/- What an owned slice looks like; chunks that hold more. No conditions. -/
namespace Go.Eng
theorem OwnS.form {e:TypeId} {s n:Nat} {v:Value} {xs:List Value} {ρ:PH} (h:OwnS e s v n xs ρ):∃ p c,v=.slice p n c:=by
  obtain ⟨_,⟨rfl,rfl,_⟩|⟨b,cap,_,rfl,_⟩⟩:=h
  · exact ⟨none,0,rfl⟩
  · exact ⟨_,cap,rfl⟩
theorem OwnS.formP {e:TypeId} {s n:Nat} {v:Value} {xs:List Value} {ρ:PH} (h:OwnS e s v n xs ρ) (hn:0<n):∃ b c,v=.slice (some ⟨b,0,none⟩) n c:=by
  obtain ⟨_,⟨_,h,_⟩|⟨b,cap,_,rfl,_⟩⟩:=h
  · omega
  · exact ⟨b,cap,rfl⟩
theorem SlAt.mono {ρ γ:PH} {s n:Nat} {v:Value} {xs:List Value} (h:SlAt ρ s v n xs) (hs:PH.sub ρ γ):SlAt γ s v n xs:=by
  obtain ⟨h1,h2|⟨b,o,c,e,h3⟩⟩:=h
  · exact ⟨h1,.inl h2⟩
  · exact ⟨h1,.inr ⟨b,o,c,e,fun j u hu=>hs.rdc (h3 j u hu)⟩⟩
theorem SlE.mono {α:Type} {enc:α→List Value} {s:Nat} {ρ γ:PH} {v:Value} {l:List α} (h:SlE enc s ρ v l) (hs:PH.sub ρ γ):SlE enc s γ v l:=SlAt.mono h hs
end Go.Eng
namespace Go.Proofs.YtahbngakckbenaaGreatDoor
open Go.Eng Go.Step
set_option maxRecDepth 100000
set_option maxHeartbeats 64000000
theorem segIn_spec {a l h:Int} (h1:l≤a) (h2:a≤h):Ans Tryz.prog (fv 83) [int a,int l,int h] [] (fun r=>r=.bool true):=by
 refine spec_in (cap:=[]) Tryz.func83 rfl rfl Tryz.ntmps83 rfl envZ (fun N β=>?_)
 refine Ac6 ?_;refine DG ?_;refine Abl ?_;refine EA ?_;refine Abi ?_;exact BE ⟨rfl,rfl⟩
theorem segInside_spec (ρ:PH) (v:Value) (l:Iv) (n:Nat) (hv:SpAt ρ v l) (hk:InI n l) (hn:n≤1999):Ans Tryz.prog (fv 143) [v,int (n:Int)] [ρ] (fun r=>r=.bool true):=by
 have hc:=ivCheck_spec ρ v l hv (by have:=hk.len (by omega); omega)
 have hl:=hk.len (by omega)
 rw [hk.chk (by omega) (by omega)] at hc
 obtain ⟨q,c,rfl,hr⟩:=hv.val encS_len
 refine spec_in (cap:=[]) Tryz.func143 rfl rfl Tryz.ntmps143 rfl envZ (fun N β=>?_)
 refine Ach ?_;refine AW hc rfl rfl rdZ rfl rfl ?_;rintro _ rfl
 by_cases h0:l.length=0
 ·refine CM ?_
  refine Ac ?_;refine CM ?_;refine Acn ?_;refine Aac ?_;refine Aac ?_;refine Aac ?_;refine Aac ?_;refine Aac ?_;refine A4 ?_;refine Abi ?_;exact BE ⟨rfl,rfl⟩
 have hx:=List.getElem?_eq_getElem (show 0<l.length by omega)
 have hy:=List.getElem?_eq_getElem (show l.length-1<l.length by omega)
 have hxa:=hk.at _ (List.getElem_mem (show 0<l.length by omega))
 have hya:=hk.at _ (List.getElem_mem (show l.length-1<l.length by omega))
 obtain ⟨b4,o4,rfl,hrd,g0,g1⟩:=spRow hr hx
 obtain ⟨b5,o5,e5,hrd2,f0,f1⟩:=spRow hr hy
 simp only [Option.some.injEq,Addr.mk.injEq,and_true] at e5
 obtain ⟨rfl,rfl⟩:=e5
 generalize l[0]=x at hrd g0 g1 hxa
 generalize l[l.length-1]=y at hrd2 f0 f1 hya
 refine CM ?_;refine Ac ?_;refine CI ?_;refine Aak ?_;refine DP ?_;refine Acy ?_;refine DG ?_;refine Abl ?_;refine BF ?_;refine CN ?_;refine CK ?_;refine DF ?_;refine AG ?_;refine AB ?_;refine EA ?_;refine A4 ?_;refine AR ?_;refine Abi ?_;exact BE ⟨rfl,rfl⟩
theorem segRules_spec:Ans Tryz.prog (fv 84) [] [] (fun r=>r=.agg #[.nilFunc,.nilFunc,fv 139,fv 140,fv 141,fv 142,fv 144,fv 145]):=by
 refine spec_in (cap:=[]) Tryz.func84 rfl rfl Tryz.ntmps84 rfl envZ (fun N β=>?_)
 refine Aa ?_;refine A6 ?_; rintro _ _ ⟨b,rfl,rfl⟩;refine Ab3 ?_;refine B5 ?_;refine B5 ?_;refine B5 ?_
 focus ((refine BQ (DQ (out:=[.nilFunc,.nilFunc,fv 139,fv 140,fv 141,fv 142,fv 144,fv 145]) rfl rfl rfl rfl rfl) rfl rfl rfl ?_))
 refine AX ?_; rintro _ _ ⟨rfl,rfl⟩;refine AE ?_;exact AK (resS1 (v1:=[.nilFunc,.nilFunc,fv 139,fv 140,fv 141,fv 142,fv 144,fv 145]) rfl rfl rfl rfl (cells_own memZ)) rsubZ selZ ⟨rfl,rfl⟩
theorem segRule1_spec {se:Int} {d:List UInt8} {x:Sg} (hx:okG d.length x) (hn:d.length≤1999):Ans Tryz.prog (fv 139) [.agg #[int 1,int se,int x.sr,int (x.a:Int),int (d.length:Int),.bool (decide (1≤x.sr)),str (cutD d x.a x.b),.slice none 0 0]] [] (fun r=>r=.bool true):=by
 obtain ⟨h1,h2,h3,h4,h5⟩:=hx
 refine spec_in (cap:=[]) Tryz.func139 rfl rfl Tryz.ntmps139 rfl envZ (fun N β=>?_)
 by_cases hs:1≤x.sr
 ·rw [decide_eq_true hs]
  refine Aa ?_;refine BK (BM rfl) rfl rfl rfl ?_;rintro _ _ ⟨b1,rfl,rfl⟩;refine AZ (ρ:=sng b1 _) takeZ ?_
  have cs:=rdB b1 37 [int 1,int se,int x.sr,int (x.a:Int),int (d.length:Int),.bool true,str (cutD d x.a x.b),.slice none 0 0]
  have cs0:=rdC cs 0
  have cs1:=rdC cs 1
  have cs2:=rdC cs 2
  have cs3:=rdC cs 3
  have cs4:=rdC cs 4
  have cs5:=rdC cs 5
  have cs6:=rdC cs 6
  have cs7:=rdC cs 7
  refine Ab4 ?_
  focus ((refine AW (segIn_spec (by omega) (by omega)) rfl rfl rdZ rfl rfl ?_; rintro _ rfl))
  refine Aap ?_;refine Aae ?_;refine CN ?_
  focus ((refine AW (segIn_spec (by omega) (by omega)) rfl rfl rdZ rfl rfl ?_; rintro _ rfl))
  refine A4 ?_;refine Aap ?_;refine DG ?_;refine Aae ?_;refine EM ?_;refine Abi ?_;exact BE ⟨rfl,rfl⟩
 ·rw [decide_eq_false hs]
  refine Aa ?_;refine BK (BM rfl) rfl rfl rfl ?_;rintro _ _ ⟨b1,rfl,rfl⟩;refine AZ (ρ:=sng b1 _) takeZ ?_
  have cs:=rdB b1 37 [int 1,int se,int x.sr,int (x.a:Int),int (d.length:Int),.bool false,str (cutD d x.a x.b),.slice none 0 0]
  have cs0:=rdC cs 0
  have cs1:=rdC cs 1
  have cs2:=rdC cs 2
  have cs3:=rdC cs 3
  have cs4:=rdC cs 4
  have cs5:=rdC cs 5
  have cs6:=rdC cs 6
  have cs7:=rdC cs 7
  refine Ab4 ?_
  focus ((refine AW (segIn_spec (by omega) (by omega)) rfl rfl rdZ rfl rfl ?_; rintro _ rfl))
  refine Aap ?_;refine Aae ?_;refine CN ?_
  focus ((refine AW (segIn_spec (by omega) (by omega)) rfl rfl rdZ rfl rfl ?_; rintro _ rfl))
  refine A4 ?_;refine Aap ?_;refine DH ?_;refine Aae ?_;refine EM ?_;refine Abi ?_;exact BE ⟨rfl,rfl⟩
theorem segRule2_spec {se:Int} {d:List UInt8} {x:Sg} (hx:okG d.length x) (hn:d.length≤1999):Ans Tryz.prog (fv 140) [.agg #[int 1,int se,int x.sr,int (x.a:Int),int (d.length:Int),.bool (decide (1≤x.sr)),str (cutD d x.a x.b),.slice none 0 0]] [] (fun r=>r=.bool true):=by
 obtain ⟨h1,h2,h3,h4,h5⟩:=hx
 have hl:=cutD_len (Nat.le_of_lt h1) h2
 refine spec_in (cap:=[]) Tryz.func140 rfl rfl Tryz.ntmps140 rfl envZ (fun N β=>?_)
 refine Aa ?_;refine BK (BM rfl) rfl rfl rfl ?_;rintro _ _ ⟨b1,rfl,rfl⟩;refine AZ (ρ:=sng b1 _) takeZ ?_
 have cs:=rdB b1 37 [int 1,int se,int x.sr,int (x.a:Int),int (d.length:Int),.bool (decide (1≤x.sr)),str (cutD d x.a x.b),.slice none 0 0]
 have cs0:=rdC cs 0
 have cs1:=rdC cs 1
 have cs2:=rdC cs 2
 have cs3:=rdC cs 3
 have cs4:=rdC cs 4
 have cs5:=rdC cs 5
 have cs6:=rdC cs 6
 have cs7:=rdC cs 7
 refine Ab4 ?_
 focus ((refine' BQ _ rfl rfl rfl _; rotate_left; (apply B4; exact rfl; exact rfl)))
 refine Aae ?_;refine Aae ?_;refine DI ?_;refine GD ?_
 focus ((refine AW (segIn_spec (by omega) (by omega)) rfl rfl rdZ rfl rfl ?_; rintro _ rfl))
 refine Aap ?_;refine BF ?_;refine CM ?_;refine Abi ?_;exact BE ⟨rfl,rfl⟩
theorem segRule3_spec {se sr:Int} {n:Nat} {p:Option Addr} {K:Iv} {c:Nat} (h1:1≤sr) (h2:1≤n) (h3:n≤1999):Ans Tryz.prog (fv 141) [.agg #[int 2,int se,int sr,int 0,int (n:Int),.bool false,str [],.slice p K.length c]] [] (fun r=>r=.bool true):=by
 refine spec_in (cap:=[]) Tryz.func141 rfl rfl Tryz.ntmps141 rfl envZ (fun N β=>?_)
 refine Aa ?_;refine BK (BM rfl) rfl rfl rfl ?_;rintro _ _ ⟨b1,rfl,rfl⟩;refine AZ (ρ:=sng b1 _) takeZ ?_
 have cs:=rdB b1 37 [int 2,int se,int sr,int 0,int (n:Int),.bool false,str [],.slice p K.length c]
 have cs0:=rdC cs 0
 have cs1:=rdC cs 1
 have cs2:=rdC cs 2
 have cs3:=rdC cs 3
 have cs4:=rdC cs 4
 have cs5:=rdC cs 5
 have cs6:=rdC cs 6
 have cs7:=rdC cs 7
 refine Ab4 ?_;refine DG ?_;refine Aap ?_
 focus ((refine AW (segIn_spec (by omega) (by omega)) rfl rfl rdZ rfl rfl ?_; rintro _ rfl))
 refine A4 ?_;refine Aap ?_;refine CM ?_;refine Abi ?_;exact BE ⟨rfl,rfl⟩
theorem segRule4_spec {ρ:PH} {se sr:Int} {n:Nat} {p:Option Addr} {K:Iv} {c:Nat} (hv:SpAt ρ (.slice p K.length c) K) (hk:InI n K) (hn:n≤1999):Ans Tryz.prog (fv 142) [.agg #[int 2,int se,int sr,int 0,int (n:Int),.bool false,str [],.slice p K.length c]] [ρ] (fun r=>r=.bool true):=by
 have hi:=segInside_spec ρ _ K n hv hk hn
 have hl:=hk.len (by omega)
 refine spec_in (cap:=[]) Tryz.func142 rfl rfl Tryz.ntmps142 rfl envZ (fun N β=>?_)
 refine Aa ?_;refine BK (BM rfl) rfl rfl rfl ?_;rintro _ _ ⟨b1,rfl,rfl⟩;refine AZ (ρ:=sng b1 _) takeZ ?_
 have cs:=rdB b1 37 [int 2,int se,int sr,int 0,int (n:Int),.bool false,str [],.slice p K.length c]
 have cs0:=rdC cs 0
 have cs1:=rdC cs 1
 have cs2:=rdC cs 2
 have cs3:=rdC cs 3
 have cs4:=rdC cs 4
 have cs5:=rdC cs 5
 have cs6:=rdC cs 6
 have cs7:=rdC cs 7
 refine Ab4 ?_;refine BC ?_;refine Aap ?_
 focus ((refine' BQ _ rfl rfl rfl _; rotate_left; (apply EU; exact rfl; exact rfl)))
 refine A4 ?_;refine Aap ?_;refine BF ?_;refine EA ?_;refine A4 ?_;refine Aap ?_;refine Aae ?_;refine AW hi rfl rfl rdZ rfl rfl ?_;rintro _ rfl;refine Abi ?_;exact BE ⟨rfl,rfl⟩
theorem segChk_spec {se:Int} {d:List UInt8} {x:Sg} (hx:okG d.length x) (hn:d.length≤1999) (hse:0≤se∧se≤1099511627776):Ans Tryz.prog (fv 39) [.agg #[int 1,int se,int x.sr,int (x.a:Int),int (d.length:Int),.bool (decide (1≤x.sr)),str (cutD d x.a x.b),.slice none 0 0]] [] (fun r=>r=int 0):=by
 have hr1:=segRule1_spec (se:=se) hx hn
 have hr2:=segRule2_spec (se:=se) hx hn
 obtain ⟨h1,h2,h3,h4,h5⟩:=hx
 obtain ⟨h6,h7⟩:=hse
 generalize decide (1≤x.sr)=ck at hr1 hr2 ⊢
 refine spec_in (cap:=[]) Tryz.func39 rfl rfl Tryz.ntmps39 rfl envZ (fun N β=>?_)
 refine Aa ?_;refine BK (BM rfl) rfl rfl rfl ?_;rintro _ _ ⟨b1,rfl,rfl⟩;refine AZ (ρ:=sng b1 _) takeZ ?_
 have cs:=rdB b1 37 [int 1,int se,int x.sr,int (x.a:Int),int (d.length:Int),.bool ck,str (cutD d x.a x.b),.slice none 0 0]
 have cs0:=rdC cs 0
 have cs1:=rdC cs 1
 have cs2:=rdC cs 2
 have cs3:=rdC cs 3
 have cs4:=rdC cs 4
 have cs5:=rdC cs 5
 have cs6:=rdC cs 6
 have cs7:=rdC cs 7
 refine Aaa ?_;refine Aba ?_
 focus ((refine AW (segIn_spec (by omega) (by omega)) rfl rfl rdZ rfl rfl ?_; rintro _ rfl))
 refine Abm ?_;refine Aa ?_;refine AW segRules_spec rfl rfl rdZ rfl rfl ?_;rintro _ rfl;refine A6 ?_; rintro _ _ ⟨b,rfl,rfl⟩;refine AX ?_; rintro _ _ ⟨rfl,rfl⟩;refine AE ?_;refine Aao ?_
 revert b; intro b3
 refine AZ (ρ:=sng b3 _) takeZ ?_
 have gr:RdP (sng b3 (.cells #[.nilFunc,.nilFunc,fv 139,fv 140,fv 141,fv 142,fv 144,fv 145] 189 (0,0))) b3 2 [fv 139,fv 140]:=rdP_sng (xs:=[.nilFunc,.nilFunc,fv 139,fv 140,fv 141,fv 142,fv 144,fv 145]) rfl
 focus ((refine BQ (CL (i:=1) (m:=2) rfl rfl rfl rfl (by decide) rfl) rfl rfl rfl ?_))
 refine AV ?_;refine A6 ?_; rintro _ _ ⟨b,rfl,rfl⟩;refine AX ?_; rintro _ _ ⟨rfl,rfl⟩;refine Aat ?_;refine Aao ?_
 revert b; intro b4
 focus ((refine AW (segIn_spec (by omega) (by omega)) rfl rfl rdZ rfl rfl ?_; rintro _ rfl))
 refine BC ?_;refine Aap ?_
 focus ((refine AW (segIn_spec (by omega) (by omega)) rfl rfl rdZ rfl rfl ?_; rintro _ rfl))
 refine BC ?_;refine Abg ?_;refine AV ?_;refine AW hr1 rfl rfl rdZ rfl rfl ?_;rintro _ rfl;refine BC ?_;refine Aa3 ?_;refine Aba ?_;refine AV ?_;refine AW hr2 rfl rfl rdZ rfl rfl ?_;rintro _ rfl;refine Abm ?_;refine Aan ?_;exact BE ⟨rfl,rfl⟩
theorem segChkR_spec {ρ:PH} {se sr:Int} {n:Nat} {p:Option Addr} {K:Iv} {c:Nat} (hv:SpAt ρ (.slice p K.length c) K) (hk:InI n K) (h2:1≤n) (hn:n≤1999) (h1:1≤sr) (h3:sr≤1099511627776) (hse:0≤se∧se≤1099511627776):Ans Tryz.prog (fv 39) [.agg #[int 2,int se,int sr,int 0,int (n:Int),.bool false,str [],.slice p K.length c]] [ρ] (fun r=>r=int 0):=by
 have hr1:=segRule3_spec (se:=se) (p:=p) (K:=K) (c:=c) h1 h2 hn
 have hr2:=segRule4_spec (se:=se) (sr:=sr) hv hk hn
 obtain ⟨h6,h7⟩:=hse
 refine spec_in (cap:=[]) Tryz.func39 rfl rfl Tryz.ntmps39 rfl envZ (fun N β=>?_)
 refine Aa ?_;refine BK (BM rfl) rfl rfl rfl ?_;rintro _ _ ⟨b1,rfl,rfl⟩;refine AZ (ρ:=sng b1 _) takeZ ?_
 have cs:=rdB b1 37 [int 2,int se,int sr,int 0,int (n:Int),.bool false,str [],.slice p K.length c]
 have cs0:=rdC cs 0
 have cs1:=rdC cs 1
 have cs2:=rdC cs 2
 have cs3:=rdC cs 3
 have cs4:=rdC cs 4
 have cs5:=rdC cs 5
 have cs6:=rdC cs 6
 have cs7:=rdC cs 7
 refine Aaa ?_;refine Aba ?_
 focus ((refine AW (segIn_spec (by omega) (by omega)) rfl rfl rdZ rfl rfl ?_; rintro _ rfl))
 refine Abm ?_;refine Aa ?_;refine AW segRules_spec rfl rfl rdZ rfl rfl ?_;rintro _ rfl;refine A6 ?_; rintro _ _ ⟨b,rfl,rfl⟩;refine AX ?_; rintro _ _ ⟨rfl,rfl⟩;refine AE ?_;refine Aao ?_
 revert b; intro b3
 refine AZ (ρ:=sng b3 _) takeZ ?_
 have gr:RdP (sng b3 (.cells #[.nilFunc,.nilFunc,fv 139,fv 140,fv 141,fv 142,fv 144,fv 145] 189 (0,0))) b3 4 [fv 141,fv 142]:=rdP_sng (xs:=[.nilFunc,.nilFunc,fv 139,fv 140,fv 141,fv 142,fv 144,fv 145]) rfl
 focus ((refine BQ (CL (i:=2) (m:=4) rfl rfl rfl rfl (by decide) rfl) rfl rfl rfl ?_))
 refine AV ?_;refine A6 ?_; rintro _ _ ⟨b,rfl,rfl⟩;refine AX ?_; rintro _ _ ⟨rfl,rfl⟩;refine Aat ?_;refine Aao ?_
 revert b; intro b4
 focus ((refine AW (segIn_spec (by omega) (by omega)) rfl rfl rdZ rfl rfl ?_; rintro _ rfl))
 refine BC ?_;refine Aap ?_
 focus ((refine AW (segIn_spec (by omega) (by omega)) rfl rfl rdZ rfl rfl ?_; rintro _ rfl))
 refine BC ?_;refine Abg ?_;refine AV ?_;refine AW hr1 rfl rfl rdZ rfl rfl ?_;rintro _ rfl;refine BC ?_;refine Aa3 ?_;refine Aba ?_;refine AV ?_;refine AW hr2 rfl rfl rdZ rfl rfl ?_;rintro _ rfl;refine Abm ?_;refine Aan ?_;exact BE ⟨rfl,rfl⟩
theorem segTime_spec {rate se:Int} {d:List UInt8} {x:Sg} (hx:okG d.length x) (hn:d.length≤1999) (hse:0≤se∧se≤1099511627776) (hr:1≤rate∧rate≤1000):Ans Tryz.prog (fv 182) [int rate,.agg #[int 1,int se,int x.sr,int (x.a:Int),int (d.length:Int),.bool (decide (1≤x.sr)),str (cutD d x.a x.b),.slice none 0 0]] [] (fun r=>r=.tuple #[int (segT rate ((x.b-x.a:Nat):Int)),int 0]):=by
 have hc:=segChk_spec hx hn hse
 obtain ⟨h1,h2,h3,h4,h5⟩:=hx
 have hl:=cutD_len (Nat.le_of_lt h1) h2
 obtain ⟨h6,h7⟩:=hr
 have hq:=segT_le h6 (len:=((x.b-x.a:Nat):Int)) (by omega)
 have hp:=segT_pos h6 (len:=((x.b-x.a:Nat):Int)) (by omega)
 unfold segT at hq hp ⊢;rw [← hl] at hq hp ⊢
 refine spec_in (cap:=[]) Tryz.func182 rfl rfl Tryz.ntmps182 rfl envZ (fun N β=>?_)
 refine Aa ?_;refine BK (BM rfl) rfl rfl rfl ?_;rintro _ _ ⟨b3,rfl,rfl⟩;refine AZ (ρ:=sng b3 _) takeZ ?_
 have cs:=rdB b3 37 [int 1,int se,int x.sr,int (x.a:Int),int (d.length:Int),.bool (decide (1≤x.sr)),str (cutD d x.a x.b),.slice none 0 0]
 have cs0:=rdC cs 0
 have cs1:=rdC cs 1
 have cs2:=rdC cs 2
 have cs3:=rdC cs 3
 have cs4:=rdC cs 4
 have cs5:=rdC cs 5
 have cs6:=rdC cs 6
 have cs7:=rdC cs 7
 refine Ac7 ?_;refine AW hc rfl rfl rdZ rfl rfl ?_;rintro _ rfl;refine Abh ?_;refine Aah ?_
 focus ((refine AW (segIn_spec (by omega) (by omega)) rfl rfl rdZ rfl rfl ?_; rintro _ rfl))
 refine Abm ?_;refine Aba ?_;refine Abh ?_;refine Aao ?_
 focus ((refine' BQ _ rfl rfl rfl _; rotate_left; (apply B4; exact rfl; exact rfl)))
 refine CA ?_;refine AB ?_;refine CA ?_;refine DI ?_;refine AB ?_;refine GC ?_;refine Aai ?_;exact AK (res2 rfl rfl rfl) rsubZ selZ ⟨rfl,rfl⟩
theorem segClaim_spec {ρ:PH} {se sr:Int} {n:Nat} {p:Option Addr} {K:Iv} {c:Nat} (hv:SpAt ρ (.slice p K.length c) K) (hk:InI n K) (h2:1≤n) (hn:n≤1999) (h1:1≤sr) (h3:sr≤1099511627776) (hse:0≤se∧se≤1099511627776):Ans Tryz.prog (fv 42) [int se,int sr,int (n:Int),.slice p K.length c] [ρ] (fun r=>r=.tuple #[.agg #[int 2,int se,int sr,int 0,int (n:Int),.bool false,str [],.slice p K.length c],int 0]):=by
 have hc:=segChkR_spec hv hk h2 hn h1 h3 hse
 refine spec_in (cap:=[]) Tryz.func42 rfl rfl Tryz.ntmps42 rfl envZ (fun N β=>?_)
 refine Aa ?_;refine A6 ?_; rintro _ _ ⟨b,rfl,rfl⟩;refine Ab1 ?_;refine Abl ?_;refine B5 ?_;refine A6 ?_; rintro _ _ ⟨b,rfl,rfl⟩;refine AX ?_; rintro _ _ ⟨rfl,rfl⟩;refine Aat ?_;refine Aaz ?_;refine AW hc rfl rfl rdZ rfl rfl ?_;rintro _ rfl;refine Ab1 ?_;refine Abh ?_;refine Aaz ?_;refine AX ?_; rintro _ _ ⟨rfl,rfl⟩;refine Aaa ?_;exact AK (resSE (v1:=[int 2,int se,int sr,int 0,int (n:Int),.bool false,str [],.slice p K.length c]) rfl rfl rfl rfl rfl (cells_own memZ)) rsubZ selZ ⟨rfl,rfl⟩
end Go.Proofs.YtahbngakckbenaaGreatDoor
namespace Go.Eng
variable {C:Cx} {D:List Deferred} {R H Hf:List PH} {L:Env} {K:List It} {ps ls:List Nat}
theorem Quiet.perm {H':List PH} {o:Oper} {v:Value} (hp:H'.Perm H) (h:Quiet C R H L o v):Quiet C R H' L o v:=⟨h.1,fun a w hx hs=>h.2 a w hx (hs.perm hp)⟩
theorem EG {H':List PH} {all:Array Oper} {done:List Nat} {plan:Pl} (hp:H.Perm H') (h:DJ C D R Hf H' L all done ps ls plan K):DJ C D R Hf H L all done ps ls plan K:=by
  refine ⟨fun hpl fuel listed a w hinv=>h.run hpl fuel listed a w ⟨hinv.size,hinv.dc,hinv.sub,hinv.fuel,hinv.tm,hinv.df,hinv.sat.perm hp,hinv.get,fun i hi hn=>?_,fun w hw=>hinv.hf w (hw.perm hp.symm),hinv.lds,hinv.data,hinv.uniq,hinv.chron⟩⟩
  obtain ⟨o,d,v,h1,h2,h3,h4,h5⟩:=hinv.prom i hi hn
  refine ⟨o,d,v,h1,h2,h3,h4,?_⟩
  rcases h5 with ⟨k1,k2⟩|k
  · refine .inl ⟨k1,?_⟩
    split at k2
    · rename_i c; rw [if_pos c]; exact k2
    · rename_i c; rw [if_neg c]; exact k2.perm hp.symm
  · exact .inr k
end Go.Eng
namespace Go.Eng
variable {C:Cx} {D:List Deferred} {R H:List PH} {L:Env} {K:List It}
end Go.Eng
namespace Go.Eng
variable {C:Cx} {D:List Deferred} {R H:List PH} {L:Env} {K:List It}
theorem CJ {σ:PH} (h:JK C D R H L K):JK C D (σ::R) H L K:=
  ⟨fun a w hf hd hs=>h.run a w hf hd ⟨hs.sz,fun ρ hρ=>hs.r ρ (List.mem_cons_of_mem _ hρ),hs.h,hs.hd,fun ρ hρ=>hs.rd ρ (List.mem_cons_of_mem _ hρ)⟩⟩
theorem OwnS.formC {e:TypeId} {s n:Nat} {v:Value} {xs:List Value} {ρ:PH} (h:OwnS e s v n xs ρ):∃ p c,v=.slice p n c∧n≤c:=by
  obtain ⟨_,⟨rfl,rfl,_⟩|⟨b,cap,cur,rfl,_,h1,_⟩⟩:=h
  · exact ⟨none,0,rfl,Nat.le_refl _⟩
  · exact ⟨_,cap,rfl,h1⟩
theorem Sat.left_out {N:Bs} {w:World}:∀ {H':List PH},Sat N R (H' ++ H) w→Sat N R H w:=fun {H'} h =>
  ⟨h.sz,h.r,fun ρ hρ=>h.h ρ (List.mem_append.2 (.inr hρ)),(List.pairwise_append.1 h.hd).2.1,fun ρ hρ σ hσ=>h.rd ρ hρ σ (List.mem_append.2 (.inr hσ))⟩
theorem CY {Hf R1:List PH} {ps ls done:List Nat} {i d:Nat} {plan:Pl} {all:Array Oper} {f:Value} {vs:List Value} {x:Operand} {xs:Array Operand} {ts:Array TypeId} {ty:TypeId} {pos:String} {aft:Array Edge} {g:Option (Nat × Bool)} {post:Value→List PH→Prop} (ho:all[i]?=some ⟨some d,.call ⟨.value x,xs,ts⟩,ty,pos,aft,g⟩) (hs:Spec C.P f vs R1 [] post) (hf:evalE L x=some f) (ha:evalEs L xs.toList=some vs) (hr:RdOK R1 R H) (hg:wantE all L ⟨some d,.call ⟨.value x,xs,ts⟩,ty,pos,aft,g⟩=some true) (hM:Nat.blt d C.M=true)
    (h:∀ v H',post v H'→DJ C D R Hf (H' ++ H) ((d,v)::L) all (i::done) ps (i::ls) plan K):ActOK C D R Hf H L all done ps ls i .e plan K:=
  a_e ho (loud_call hs hf ha Takes.nil hr) hg rfl hM (fun v H' ⟨H1',e,hp⟩ w hw=>by subst e; exact hw.left_out) (fun v H' ⟨H1',e,hp⟩=>by subst e; exact h v H1' hp)
end Go.Eng
namespace Go.Proofs.YtahbngakckbenaaGreatDoor
open Go.Eng Go.Step
set_option maxRecDepth 100000
set_option maxHeartbeats 64000000
theorem segPieces_spec (v:Value) (hv:v.oneCell'=true) :
  Eng.Spec Tryz.prog (fv 183) [v] [] [] (fun r H'=>∃ b1,r=.func (.func 207) #[] #[.pointer (some ⟨b1,0,none⟩)]∧H'=[sng b1 (.cells #[v] 25 (0,0))]):=by
 refine spec_in (cap:=[]) Tryz.func183 rfl rfl Tryz.ntmps183 rfl envZ (fun N β=>?_)
 refine Aa ?_;refine BK (DW rfl hv) rfl rfl rfl ?_;rintro _ _ ⟨b1,rfl,rfl⟩;refine Aaa ?_;refine Aa ?_;refine B0 ?_;refine Aaa ?_;exact AK (res1 rfl rfl) rsubZ selZ ⟨b1,rfl,rfl⟩
theorem segPieces_iter {ρ:PH} {v:Value} {M:Iv} {n:Nat} (hv:SpAt ρ v M) (hM:InI n M) (hn:n≤1999) (b1:Nat) :
  Iter Tryz.prog (.func (.func 207) #[] #[.pointer (some ⟨b1,0,none⟩)]) [sng b1 (.cells #[v] 25 (0,0)),ρ] ((pcsAll M).map (fun x=>[.agg #[int x.1,int x.2]])):=by
 intro y S Own Inv Stop Ry hy hyl σ0 hI0
 obtain ⟨yl,rfl⟩:=hyl
 have hlen:=hM.len (by omega)
 obtain ⟨q,c,rfl,hr⟩:=hv.val encS_len
 have bx37_3:=rdB b1 25 [.slice q M.length c]
 have c1:=rdC bx37_3 0
 simp only [List.cons_append,List.nil_append]
 refine spec_in (cap:=[.pointer (some ⟨b1,0,none⟩)]) Tryz.func207 rfl rfl Tryz.ntmps207 rfl envZ (fun N β=>?_)
 refine Acp ?_;refine Abw ?_
 refine BX [0,1,7,8] (X:=Nat × S) (0,σ0) (fun z=>z.1≤M.length∧Inv (pcsAll (M.take z.1)).length z.2) (fun z=>[(9,int (z.1:Int))]) (fun z=>Own z.2) (fun z=>M.length-z.1) pickZ ⟨Nat.zero_le _,hI0⟩ covZ Sel.refl ?_
 rintro ⟨k,σ1⟩ ⟨hk,hI⟩
 dsimp only at hk hI ⊢
 by_cases hlt:k<M.length
 rotate_left
 ·have hke:k=M.length:=by omega
  subst hke;rw [List.take_length] at hI;refine Aby ?_
  refine BW (res0 rfl) (fun _ h=>h) Sel.refl ⟨σ1,rfl,.inl ?_⟩
  rw [List.length_map];exact hI
 have hx:=List.getElem?_eq_getElem hlt
 have hxa:=hM.at _ (List.getElem_mem hlt)
 obtain ⟨bl,ol,rfl,hrd,x0,x1⟩:=spRow hr hx
 generalize M[k]=x at hx hxa hrd x0 x1
 have hsc:=pcsAll_succ hx
 refine Ac8 ?_;refine A6 ?_; rintro _ _ ⟨b,rfl,rfl⟩;refine AX ?_; rintro _ _ ⟨rfl,rfl⟩;refine AE ?_;refine Aao ?_;refine Aaa ?_;refine A8 ?_
 revert b; intro b7
 refine AZ (ρ:=sng b7 _) takeZ ?_
 have bx95_3:=rdB b7 49 [int x.1,int x.2]
 have m0:=rdC bx95_3 0
 have m1:=rdC bx95_3 1
 skip
 refine BX [0,1,4,7,8,9] (X:=Nat × Int × S) (0,x.1,σ1) (fun z=>z.1≤(pcs (x.2-x.1).toNat x.1 x.2).length∧x.1≤z.2.1∧z.2.1≤x.2∧(pcs (x.2-x.1).toNat x.1 x.2).drop z.1=pcs (x.2-z.2.1).toNat z.2.1 x.2∧Inv ((pcsAll (M.take k)).length+z.1) z.2.2) (fun z=>[(5,int z.2.1)]) (fun z=>Own z.2.2) (fun z=>(x.2-z.2.1).toNat) pickZ ⟨Nat.zero_le _,by dsimp only; omega,by dsimp only; omega,rfl,hI⟩ covZ Sel.refl ?_
 rintro ⟨j,f,σ2⟩ ⟨hle,hf1,hf2,hd,hI2⟩
 dsimp only at hle hf1 hf2 hd hI2 ⊢
 by_cases hfx:f<x.2
 rotate_left
 ·have hfe:f=x.2:=by omega
  subst hfe;rw [pcs_end (Int.le_refl _)] at hd
  have hjl:=List.drop_eq_nil_iff.1 hd
  refine Aah ?_;refine Aae ?_;refine BN ?_;refine AE ?_;refine Aay ?_;refine Abc ?_;refine CJ ?_
  refine BH (k+1,σ2) ⟨by dsimp only; omega,?_⟩ (by dsimp only; omega) covZ Sel.refl
  dsimp only
  rw [hsc,List.length_append]
  rw [show (pcs (x.2-x.1).toNat x.1 x.2).length=j from by omega]
  exact hI2
 have hst:=pcs_step hx hd (by omega) hfx
 have hnx:=pcs_next (show 0≤f by omega) hfx
 have hya:=hy _ σ2 [.agg #[int f,int (min x.2 ((f / 16+1)*16))]] (by rw [List.getElem?_map,hst.1]; rfl) hI2
 generalize hm:min x.2 ((f / 16+1)*16)=m at hst hnx hya
 refine Aah ?_;refine Aae ?_;refine CC ?_;refine Aal ?_;refine AN ?_;refine A8 ?_;refine Aao ?_;refine AB ?_;refine GC ?_;refine CA ?_;refine E5 ?_;refine GD ?_;refine Aa7 ?_;refine Aak ?_;refine B5 ?_;rw [hm]
 skip
 refine BG hya rfl rfl Takes.all (fun τ hτ=>.inl (by simp [hτ])) rfl rfl ?_
 rintro _ H' ⟨σ3,rfl,⟨rfl,hI3⟩|⟨rfl,hSt⟩⟩
 ·rw [List.append_nil]
  refine Abm ?_;refine Acf ?_;refine Aaa ?_;refine BI ?_
  exact BH (j+1,m,σ3) ⟨hst.2.2,by dsimp only; omega,by dsimp only; omega,hst.2.1,hI3⟩ (by dsimp only; omega) covZ Sel.refl
 ·rw [List.append_nil]
  refine BC ?_;refine Aal ?_
  exact AK (res0 rfl) (fun _ h=>List.mem_cons_of_mem _ h) Sel.refl ⟨σ3,rfl,.inr hSt⟩
theorem segBatch_spec {ρ:PH} {v:Value} {M:Iv} {se sr:Int} {d:List UInt8} (hv:SpAt ρ v M) (hM:InI d.length M) (hne:M≠[]) (hn1:1≤d.length) (hn:d.length≤1999) (hse:0≤se∧se≤1099511627776) (hsr:1≤sr∧sr≤1099511627776) :
  Makes Tryz.prog (fv 129) [int se,int sr,str d,v] [ρ] (fun r σ=>∃ p c,r=.tuple #[.slice p (bat sr (pcsAll M)).length c,int 0]∧OwnS 37 8 (.slice p (bat sr (pcsAll M)).length c) (bat sr (pcsAll M)).length ((bat sr (pcsAll M)).flatMap (encG se d)) σ):=by
 have hin:=segInside_spec ρ v M d.length hv hM hn
 have hps:=segPieces_spec v (by obtain ⟨_,_,rfl,_⟩:=hv.val encS_len; rfl)
 have hit:=fun b1=>segPieces_iter hv hM hn b1
 have hMl:=hM.len (by omega)
 have hM0:0<M.length:=List.length_pos_iff.2 hne
 have hP0:0<(pcsAll M).length:=List.length_pos_iff.2 (pcsAll_ne hM.1 (fun x hx=>(hM.at x hx).1) hne)
 have hPl:=pcsAll_len hM (by omega)
 have hPa:∀ x∈pcsAll M,0≤x.1∧x.1<x.2∧x.2≤(d.length:Int):=fun x hx=>by
  obtain ⟨y,hy,g1,g2,g3,_⟩:=(pcsAll_ok hM.1 (fun x hx=>(hM.at x hx).1)).1 x hx
  have:=hM.at y hy
  omega
 have hbl:=bat_len sr (pcsAll M)
 obtain ⟨h6,h7⟩:=hse
 obtain ⟨h8,h9⟩:=hsr
 have hd0:(d == [])=false:=by
  cases d with
  | nil=>simp at hn1
  | cons _ _=>rfl
 obtain ⟨q,c,rfl,_⟩:=hv.val encS_len
 refine spec_in (cap:=[]) Tryz.func129 rfl rfl Tryz.ntmps129 rfl envZ (fun N β=>?_)
 refine CB ?_;refine Aa ?_;refine D0 ?_; rintro _ _ ⟨b,rfl,rfl⟩;refine D0 ?_; rintro _ _ ⟨b,rfl,rfl⟩;refine Aai ?_;refine Aa4 ?_;refine Acp ?_
 revert b; intro b6
 revert b; intro b4
 refine AZ (ρ:=sng b4 _) takeZ ?_;refine AZ (ρ:=sng b6 _) takeZ ?_
 have bx220_3:=rdB b4 3 [int se]
 have g4:=rdC bx220_3 0
 have bx221_3:=rdB b6 9 [str d]
 have g6:=rdC bx221_3 0
 focus ((refine AW (segIn_spec (by omega) (by omega)) rfl rfl rdZ rfl rfl ?_; rintro _ rfl))
 refine Acq ?_
 focus ((refine AW (segIn_spec (by omega) (by omega)) rfl rfl rdZ rfl rfl ?_; rintro _ rfl))
 refine BC ?_;refine AR ?_;refine Ab8 ?_;refine Acp ?_;refine BQ (EU rfl rfl) rfl rfl rfl ?_;rw [hd0];refine Ab8 ?_;refine Acp ?_
 focus ((refine' BQ _ rfl rfl rfl _; rotate_left; (apply B4; exact rfl; exact rfl)))
 refine BP ?_;refine Ab8 ?_;refine Aab ?_;refine AG ?_
 focus ((refine' BQ _ rfl rfl rfl _; rotate_left; (apply B4; exact rfl; exact rfl)))
 refine AW hin rfl rfl rdZ rfl rfl ?_;rintro _ rfl;refine BC ?_;refine Ab8 ?_;refine Aab ?_;refine BF ?_;refine CI ?_;refine Aaa ?_;refine Aaf ?_;refine BI ?_;refine Aa ?_;refine CQ ?_; rintro _ _ ⟨b,rfl,rfl⟩;refine Ac1 ?_
 revert b; intro b10
 refine BG hps rfl rfl Takes.nil (fun τ hτ=>by simp at hτ) rfl rfl ?_
 rintro _ _ ⟨b1,rfl,rfl⟩;refine AZ (ρ:=sng b1 _) takeZ ?_;refine AE ?_;refine A8 ?_
 refine E0 (gf:=207) (cap:=[.pointer (some ⟨b1,0,none⟩)]) (ps:=[41]) (X:=Value × PH) rfl Tryz.func207 rfl rfl
  (hit b1) ?_
  (fun i x=>OwnS 37 8 x.1 (((pcsAll M).take i).map fun y=>(sg0 y,false)).length ((((pcsAll M).take i).map fun y=>(sg0 y,false)).flatMap (encH se d)) x.2)
  (fun x=>[sng b10 (.cells #[x.1] 35 (0,0)),x.2]) (fun _ _=>False) (.slice none 0 0,emp) rfl takesZ (OwnS.nil _ _) ?_ ?_ ?_
 ·intro σ' hσ
  simp only [List.mem_cons,List.not_mem_nil,or_false] at hσ ⊢
  rcases hσ with h|h <;> simp [h]
 ·rintro lo r i ⟨u,σ⟩ vs hvs hO hps has hbd hst hpe hfr
  obtain ⟨st,pe,fnn,tm,prm,asg,bdy,df⟩:=r
  simp only at hps has hbd hst hpe hfr;subst hps has hbd hst hpe;rw [List.getElem?_map] at hvs
  obtain ⟨x,hc,rfl⟩:=Option.map_eq_some_iff.1 hvs
  have hxa:=hPa x (List.mem_of_getElem? hc)
  have hi:=(List.getElem?_eq_some_iff.1 hc).1
  dsimp only at hO
  have htl:(((pcsAll M).take i).map fun y=>(sg0 y,false)).length=i:=by rw [List.length_map,List.length_take]; omega
  rw [htl] at hO
  have hnx:((pcsAll M).take (i+1)).map (fun y=>(sg0 y,false))=((pcsAll M).take i).map (fun y=>(sg0 y,false)) ++ [(sg0 x,false)]:=by
   rw [List.take_add_one,hc,List.map_append]; rfl
  obtain ⟨aa,ha⟩:∃ a:Nat,x.1=(a:Int):=⟨x.1.toNat,by omega⟩
  obtain ⟨bb,hb⟩:∃ b:Nat,x.2=(b:Int):=⟨x.2.toNat,by omega⟩
  have esg:encH se d (sg0 x,false)=[int 1,int se,int 0,int (aa:Int),int (d.length:Int),.bool false,str ((d.drop aa).take (bb-aa)),.slice none 0 0]:=by
   simp [encH,sg0,ha,hb,cutD]
  rw [ha,hb] at hxa;rw [ha,hb]
  have hu1:u.oneCell'=true:=by obtain ⟨_,_,rfl⟩:=hO.form; rfl
  refine yield_spec hfr rfl (by intro p hp; simp at hp; omega) putiZ (fun N' β'=>?_)
  dsimp only
  refine AA ?_;refine A6 ?_; rintro _ _ ⟨b,rfl,rfl⟩;refine AX ?_; rintro _ _ ⟨rfl,rfl⟩;refine AE ?_;refine DX rfl rfl ?_;refine D4 takeZ rfl ?_
  revert b; intro bx
  refine AZ (ρ:=sng bx _) takeZ ?_
  have bx320_3:=rdB bx 49 [int (aa:Int),int (bb:Int)]
  have m0:=rdC bx320_3 0
  have m1:=rdC bx320_3 1
  refine A8 ?_
  refine BD (.q 0 (.q 1 (.q 2 (.q 3 (.q 4 (.q 5 (.q 6 (.q 7 (.q 8 (.q 9 (.q 10 (.q 11 (.q 12 (.l 13 .e (.l 14 .b (.l 15 .b .nil)))))))))))))))) [] rfl (by kernel_rfl) Sel.nil ?_
  refine AS ?_;refine AS ?_;refine Aaj ?_;refine AS ?_
  focus ((refine' CF rfl _ rfl rfl rfl rfl _; rotate_left; (apply B4; exact rfl; exact rfl)))
  refine AS ?_;refine Ac9 ?_
  focus ((refine' CF rfl _ rfl rfl rfl rfl _; rotate_left; (apply EO; exact rfl; exact rfl; exact rfl; exact rfl; omega; omega)))
  refine DT ?_
  have hfl:Flat [.agg #[int 1,int se,int 0,int (aa:Int),int (d.length:Int),.bool false,str ((d.drop aa).take (bb-aa)),.slice none 0 0]] [int 1,int se,int 0,int (aa:Int),int (d.length:Int),.bool false,str ((d.drop aa).take (bb-aa)),.slice none 0 0]:=Flat.agg (ws:=[int 1,int se,int 0,int (aa:Int),int (d.length:Int),.bool false,str ((d.drop aa).take (bb-aa)),.slice none 0 0]) Flat.nil
  refine BL (a_e rfl (B6 (cs:=[int 1,int se,int 0,int (aa:Int),int (d.length:Int),.bool false,str ((d.drop aa).take (bb-aa)),.slice none 0 0]) rfl rfl rfl rfl rfl oneZ hfl rfl) rfl rfl rfl (by rintro _ _ ⟨b,rfl,rfl⟩ w hw; exact hw.tail) ?_)
  rintro _ _ ⟨bn,rfl,rfl⟩
  refine BL (a_b rfl (CV (by_:=88) (s:=8) (news:=[int 1,int se,int 0,int (aa:Int),int (d.length:Int),.bool false,str ((d.drop aa).take (bb-aa)),.slice none 0 0]) rfl rfl rfl rfl rfl rfl rfl hO takeZ (cells_own memZ) rfl oneZ (by omega) (by simp only [maxLen]; omega) (by omega)) rfl rfl rfl (fun _ _ _ w hw=>hw.sel Sel.nil) ?_)
  rintro u1 _ ⟨σ1,hO1,rfl⟩
  obtain ⟨pu,ku,rfl⟩:=hO1.form
  refine CO ?_; rintro _ _ ⟨rfl,rfl⟩;refine A7 ?_;refine BI ?_;refine CP takeZ rsubZ selZ ⟨(.slice pu (i+1) ku,σ1),.inl ⟨rfl,?_,rfl⟩⟩
  dsimp only
  rw [hnx,List.length_append,List.flatMap_append,htl];simp only [List.flatMap_cons,List.flatMap_nil,List.append_nil,esg];exact hO1
 ·rintro b2' ⟨u,σ⟩ hO
  dsimp only at hO
  have hxl:((pcsAll M).map (fun x=>[Value.agg #[int x.1,int x.2]])).length=(pcsAll M).length:=List.length_map _
  rw [hxl,List.take_length] at hO
  obtain ⟨bu,cu,rfl⟩:=hO.formP (by rw [List.length_map]; exact hP0)
  have hx:=List.getElem?_eq_getElem (show (pcsAll M).length-1<(pcsAll M).length by omega)
  have hxa:=hPa _ (List.getElem_mem (show (pcsAll M).length-1<(pcsAll M).length by omega))
  generalize (pcsAll M)[(pcsAll M).length-1]=x at hx hxa
  have hbe:=bat_enc (se:=se) (d:=d) h8 hx
  have hml:((pcsAll M).map fun y=>(sg0 y,false)).length=(pcsAll M).length:=List.length_map _
  have hget:((pcsAll M).map fun y=>(sg0 y,false))[(pcsAll M).length-1]?=some (sg0 x,false):=by rw [List.getElem?_map,hx]; rfl
  refine BI ?_;refine Acp ?_;refine AG ?_;refine BF ?_;refine CN ?_;refine CK ?_;refine Ab1 ?_;refine Aak ?_;refine AQ ?_;refine DF ?_
  refine BR (D7 (encH_len se d) (s:=8) ((pcsAll M).length-1) 2 (⟨x.1.toNat,x.2.toNat,sr⟩,false) hO rfl (by simp; rfl) (by decide) hget rfl rfl rfl rfl takeZ) rfl rfl ?_
  rintro _ _ ⟨rfl,σ1,hO1,rfl⟩
  have hget2:(((pcsAll M).map fun y=>(sg0 y,false)).set ((pcsAll M).length-1) ((⟨x.1.toNat,x.2.toNat,sr⟩:Sg),false))[(pcsAll M).length-1]?=some (⟨x.1.toNat,x.2.toNat,sr⟩,false):=by
   rw [List.getElem?_set,if_pos rfl,if_pos (by rw [hml]; omega)]
  refine AQ ?_;refine DF ?_
  refine BR (D7 (encH_len se d) (s:=8) ((pcsAll M).length-1) 5 (⟨x.1.toNat,x.2.toNat,sr⟩,true) hO1 rfl (by simp; rfl) (by decide) hget2 rfl rfl rfl rfl takeZ) rfl rfl ?_
  rintro _ _ ⟨rfl,σ2,hO2,rfl⟩;rw [List.set_set,hbe,List.length_set,hml] at hO2
  dsimp only
  rw [hml];refine Ab3 ?_;refine AG ?_;refine Aai ?_
  refine EQ (Marks.cons (Take.there .here) .nil) (res2 rfl rfl rfl) rsubZ selZ ⟨σ2,⟨some ⟨bu,0,none⟩,cu,by rw [hbl]; rfl,?_⟩,rfl⟩
  rw [hbl];exact hO2
 ·rintro _ _ _ h; exact h.elim
end Go.Proofs.YtahbngakckbenaaGreatDoor
namespace Go.Step
theorem oddB_cases (p:Nat):(oddB p=true∧p=2*(p / 2)+1)∨(oddB p=false∧p=2*(p / 2)):=by
  unfold oddB
  by_cases h:p % 2=1
  · exact .inl ⟨decide_eq_true h,by omega⟩
  · exact .inr ⟨decide_eq_false h,by omega⟩
def nxtT (A B:List Int) (p q:Nat):Int:=if p<A.length then (if q<B.length∧B.getD q 0<A.getD p 0 then B.getD q 0 else A.getD p 0) else B.getD q 0
def stp (A:List Int) (t:Int) (p:Nat):Nat:=if p<A.length∧A.getD p 0=t then p+1 else p
theorem stp_le {A:List Int} {t:Int} {p:Nat} (h:p≤A.length):p≤stp A t p∧stp A t p≤A.length:=by
  unfold stp
  split <;> omega
theorem drop_at {A:List Int} {p:Nat} (h:p<A.length):A.drop p=A.getD p 0::A.drop (p+1):=by
  rw [List.drop_eq_getElem_cons h,List.getD_eq_getElem?_getD,List.getElem?_eq_getElem h]; rfl
theorem mrg_cc (a:Int) (A:List Int) (p:Bool) (b:Int) (B:List Int) (q:Bool):mrg (a::A) p (b::B) q=if a<b then (a,!p,q)::mrg A (!p) (b::B) q else if b<a then (b,p,!q)::mrg (a::A) p B (!q) else (a,!p,!q)::mrg A (!p) B (!q):=by
  conv=>lhs; unfold mrg
theorem mrg_cn (a:Int) (A:List Int) (p q:Bool):mrg (a::A) p [] q=(a,!p,q)::mrg A (!p) [] q:=by
  conv=>lhs; unfold mrg
theorem mrg_nc (b:Int) (B:List Int) (p q:Bool):mrg [] p (b::B) q=(b,p,!q)::mrg [] p B (!q):=by
  conv=>lhs; unfold mrg
theorem mrg_at {A B:List Int} {p q:Nat} (hp:p≤A.length) (hq:q≤B.length) (h:p<A.length∨q<B.length) :
    mrg (A.drop p) (oddB p) (B.drop q) (oddB q)=(nxtT A B p q,oddB (stp A (nxtT A B p q) p),oddB (stp B (nxtT A B p q) q))::mrg (A.drop (stp A (nxtT A B p q) p)) (oddB (stp A (nxtT A B p q) p)) (B.drop (stp B (nxtT A B p q) q)) (oddB (stp B (nxtT A B p q) q)):=by
  by_cases h1:p<A.length
  · by_cases h2:q<B.length
    · rw [drop_at h1,drop_at h2,mrg_cc]
      by_cases c1:A.getD p 0<B.getD q 0
      · have e:nxtT A B p q=A.getD p 0:=by unfold nxtT; rw [if_pos h1,if_neg (by omega)]
        have e1:stp A (A.getD p 0) p=p+1:=by unfold stp; rw [if_pos ⟨h1,rfl⟩]
        have e2:stp B (A.getD p 0) q=q:=by unfold stp; rw [if_neg (by omega)]
        rw [if_pos c1,e,e1,e2,oddB_succ,drop_at h2]
      · by_cases c2:B.getD q 0<A.getD p 0
        · have e:nxtT A B p q=B.getD q 0:=by unfold nxtT; rw [if_pos h1,if_pos ⟨h2,c2⟩]
          have e1:stp A (B.getD q 0) p=p:=by unfold stp; rw [if_neg (by omega)]
          have e2:stp B (B.getD q 0) q=q+1:=by unfold stp; rw [if_pos ⟨h2,rfl⟩]
          rw [if_neg c1,if_pos c2,e,e1,e2,oddB_succ,drop_at h1]
        · have e:nxtT A B p q=A.getD p 0:=by unfold nxtT; rw [if_pos h1,if_neg (by omega)]
          have e1:stp A (A.getD p 0) p=p+1:=by unfold stp; rw [if_pos ⟨h1,rfl⟩]
          have e2:stp B (A.getD p 0) q=q+1:=by unfold stp; rw [if_pos ⟨h2,by omega⟩]
          rw [if_neg c1,if_neg c2,e,e1,e2,oddB_succ,oddB_succ]
    · have hq2:q=B.length:=by omega
      subst hq2
      have e:nxtT A B p B.length=A.getD p 0:=by unfold nxtT; rw [if_pos h1,if_neg (by omega)]
      have e1:stp A (A.getD p 0) p=p+1:=by unfold stp; rw [if_pos ⟨h1,rfl⟩]
      have e2:stp B (A.getD p 0) B.length=B.length:=by unfold stp; rw [if_neg (by omega)]
      rw [drop_at h1,List.drop_length,e,e1,e2,oddB_succ,List.drop_length,mrg_cn]
  · have hp2:p=A.length:=by omega
    subst hp2
    have h2:q<B.length:=by omega
    have e:nxtT A B A.length q=B.getD q 0:=by unfold nxtT; rw [if_neg h1]
    have e1:stp A (B.getD q 0) A.length=A.length:=by unfold stp; rw [if_neg (by omega)]
    have e2:stp B (B.getD q 0) q=q+1:=by unfold stp; rw [if_pos ⟨h2,rfl⟩]
    rw [drop_at h2,List.drop_length,e,e1,e2,oddB_succ,List.drop_length,mrg_nc]
theorem stp_go {A B:List Int} {p q:Nat} (h:p<A.length∨q<B.length):p<stp A (nxtT A B p q) p∨q<stp B (nxtT A B p q) q:=by
  by_cases h1:p<A.length
  · by_cases h2:q<B.length∧B.getD q 0<A.getD p 0
    · have e:nxtT A B p q=B.getD q 0:=by unfold nxtT; rw [if_pos h1,if_pos h2]
      right; rw [e]; unfold stp; rw [if_pos ⟨h2.1,rfl⟩]; omega
    · have e:nxtT A B p q=A.getD p 0:=by unfold nxtT; rw [if_pos h1,if_neg h2]
      left; rw [e]; unfold stp; rw [if_pos ⟨h1,rfl⟩]; omega
  · have e:nxtT A B p q=B.getD q 0:=by unfold nxtT; rw [if_neg h1]
    right; rw [e]; unfold stp; rw [if_pos ⟨by omega,rfl⟩]; omega
theorem mrg_len:∀ (n:Nat) (A:List Int) (p:Bool) (B:List Int) (q:Bool),A.length+B.length≤n→(mrg A p B q).length≤A.length+B.length
  | n,[],p,[],q,_=>by unfold mrg; simp
  | 0,a::A,p,B,q,h=>by simp at h
  | 0,[],p,b::B,q,h=>by simp at h
  | n+1,a::A,p,[],q,h=>by
    rw [mrg_cn]
    have:=mrg_len n A (!p) [] q (by simp at h ⊢; omega)
    simp at this ⊢
    omega
  | n+1,[],p,b::B,q,h=>by
    rw [mrg_nc]
    have:=mrg_len n [] p B (!q) (by simp at h ⊢; omega)
    simp at this ⊢
    omega
  | n+1,a::A,p,b::B,q,h=>by
    rw [mrg_cc]
    have h1:=mrg_len n A (!p) (b::B) q (by simp at h ⊢; omega)
    have h2:=mrg_len n (a::A) p B (!q) (by simp at h ⊢; omega)
    have h3:=mrg_len n A (!p) B (!q) (by simp at h ⊢; omega)
    simp at h1 h2 h3
    split
    · simp; omega
    · split <;> simp <;> omega
theorem mcomb1_len (f:Bool→Bool→Bool) (O:List Int) (e:Int × Bool × Bool):(mcomb1 f O e).length≤O.length+1:=by
  unfold mcomb1
  split
  · omega
  · simp
theorem mcomb_len (f:Bool→Bool→Bool):∀ (S:List (Int × Bool × Bool)) (O:List Int),(mcomb f S O).length≤O.length+S.length
  | [],O=>by simp [mcomb]
  | e::S,O=>by
    have h1:=mcomb_len f S (mcomb1 f O e)
    have h2:=mcomb1_len f O e
    show (mcomb f S (mcomb1 f O e)).length≤_
    simp
    omega
theorem mcomb_next (f:Bool→Bool→Bool) {S:List (Int × Bool × Bool)} {i:Nat} {e:Int × Bool × Bool} (h:S[i]?=some e) (O:List Int):mcomb f (S.take (i+1)) O=mcomb1 f (mcomb f (S.take i) O) e:=by
  obtain ⟨hi,rfl⟩:=List.getElem?_eq_some_iff.1 h
  rw [List.take_succ_eq_append_getElem hi];unfold mcomb;rw [List.foldl_append]
  rfl
theorem mrg_end {A B:List Int} {p q:Bool}:mrg (A.drop A.length) p (B.drop B.length) q=[]:=by
  rw [List.drop_length,List.drop_length];unfold mrg
  rfl
theorem drop_head {α:Type} {S:List α} {k:Nat} {x:α} {r:List α} (h:S.drop k=x::r):S[k]?=some x∧S.drop (k+1)=r∧k<S.length:=by
  have hk:k<S.length:=by
    apply Nat.lt_of_not_le
    intro hc
    rw [List.drop_eq_nil_of_le hc] at h
    simp at h
  rw [List.drop_eq_getElem_cons hk,List.cons.injEq] at h
  exact ⟨by rw [List.getElem?_eq_getElem hk,h.1],h.2,hk⟩
end Go.Step
namespace Go.Eng
variable {C:Cx} {D:List Deferred} {R H:List PH} {L:Env} {K:List It}
end Go.Eng
namespace Go.Proofs.YtahbngakckbenaaGreatDoor
open Go.Eng Go.Step
set_option maxRecDepth 100000
set_option maxHeartbeats 64000000
theorem sideNext_spec (ρ:PH) (v:Value) (l:Iv) (b p:Nat) (hv:SpAt ρ v l) (hl:l.length≤4611686018427387903) (hp:p≤2*l.length) :
  Ans Tryz.prog (fv 215) [.pointer (some ⟨b,0,none⟩)] [sng b (.cells #[v,int ((p / 2:Nat):Int),.bool (oddB p)] 336 (0,0)),ρ] (fun r=>r=.tuple #[int ((tog l).getD p 0),.bool (decide (p<2*l.length))]):=by
 obtain ⟨q,c,rfl,hr⟩:=hv.val encS_len
 have hod:=oddB_cases p
 obtain ⟨i,hi⟩:∃ i,p / 2=i:=⟨_,rfl⟩
 rw [hi] at hod ⊢
 have ct:=rdB b 336 [.slice q l.length c,int ((i:Nat):Int),.bool (oddB p)]
 have ct0:=rdC ct 0
 have ct1:=rdC ct 1
 have ct2:=rdC ct 2
 refine spec_in (cap:=[]) Tryz.func215 rfl rfl Tryz.ntmps215 rfl envZ (fun N β=>?_)
 by_cases h0:p=2*l.length
 ·have hR:(tog l).getD p 0=0:=by rw [List.getD_eq_getElem?_getD,List.getElem?_eq_none (by rw [tog_len]; omega)]; rfl
  rw [hR,decide_eq_false (by omega)]
  have hil:i=l.length:=by omega
  refine Acg ?_;refine Aa4 ?_;refine AD ?_
  refine BD P1Z [] rfl (by kernel_rfl) selZ ?_
  refine Ab2 ?_;refine CT ?_;refine FB ?_;refine Aam ?_;refine A5 rfl ?_;refine Acg ?_;exact AK (res2 rfl rfl rfl) rsubZ selZ ⟨rfl,rfl⟩
 have hil:i<l.length:=by omega
 obtain ⟨g1,g2⟩:=tog_get l i _ (List.getElem?_eq_getElem hil)
 rw [decide_eq_true (show p<2*l.length by omega)]
 obtain ⟨b4,o4,rfl,hrd,x0,x1⟩:=spRow hr (List.getElem?_eq_getElem hil)
 rcases hod with ⟨ho,hp2⟩|⟨ho,hp2⟩
 ·have hR:(tog l).getD p 0=l[i].2:=by rw [List.getD_eq_getElem?_getD,hp2,g2]; rfl
  rw [hR];rw [ho] at ct ct0 ct1 ct2 ⊢
  generalize l[i]=x at hrd x0 x1
  refine Acg ?_;refine Aa4 ?_;refine AD ?_
  refine BD P1Z [] rfl (by kernel_rfl) selZ ?_
  refine Ab2 ?_;refine CT ?_;refine E3 ?_;refine Aam ?_;refine AL rfl ?_;refine Ad ?_;refine Aaa ?_;refine A5 rfl ?_;refine AD ?_
  refine BD P0Z [] rfl (by kernel_rfl) selZ ?_
  refine Ab2 ?_;refine CR ?_;refine Ace ?_;refine Abk ?_
  skip
  exact AK (res2 rfl rfl rfl) rsubZ selZ ⟨rfl,rfl⟩
 ·have hR:(tog l).getD p 0=l[i].1:=by rw [List.getD_eq_getElem?_getD,hp2,g1]; rfl
  rw [hR];rw [ho] at ct ct0 ct1 ct2 ⊢
  generalize l[i]=x at hrd x0 x1
  refine Acg ?_;refine Aa4 ?_;refine AD ?_
  refine BD P1Z [] rfl (by kernel_rfl) selZ ?_
  refine Ab2 ?_;refine CT ?_;refine E3 ?_;refine Aam ?_;refine AL rfl ?_;refine Ad ?_;refine Aaa ?_;refine Aaf ?_;refine BI ?_;refine AD ?_
  refine BD P0Z [] rfl (by kernel_rfl) selZ ?_
  refine Ab2 ?_;refine CR ?_;refine C4 ?_;refine AS ?_;refine Abk ?_
  skip
  exact AK (res2 rfl rfl rfl) rsubZ selZ ⟨rfl,rfl⟩
theorem sidePass_spec (ρ:PH) (v:Value) (l:Iv) (b p:Nat) (t:Int) (hv:SpAt ρ v l) (hl:l.length≤4611686018427387903) (hp:p≤2*l.length) :
  Eng.Spec Tryz.prog (fv 216) [.pointer (some ⟨b,0,none⟩),int t] [ρ] [sng b (.cells #[v,int ((p / 2:Nat):Int),.bool (oddB p)] 336 (0,0))] (fun r H'=>r=.tuple #[]∧H'=[sng b (.cells #[v,int ((stp (tog l) t p / 2:Nat):Int),.bool (oddB (stp (tog l) t p))] 336 (0,0))]):=by
 have hn:=sideNext_spec ρ v l b p hv hl hp
 obtain ⟨q,c,rfl,hr⟩:=hv.val encS_len
 refine spec_in (cap:=[]) Tryz.func216 rfl rfl Tryz.ntmps216 rfl envZ (fun N β=>?_)
 refine Aah ?_;refine AW hn rfl rfl rdZ rfl rfl ?_;rintro _ rfl
 by_cases h1:p<2*l.length
 rotate_left
 ·have hs:stp (tog l) t p=p:=by unfold stp; rw [if_neg (by rw [tog_len]; omega)]
  rw [hs,decide_eq_false h1];refine Aa1 ?_;refine Aca ?_;refine Ab9 ?_;refine Abr ?_;exact AK (res0 rfl) rsubZ selZ ⟨rfl,rfl⟩
 rw [decide_eq_true h1]
 by_cases h2:(tog l).getD p 0=t
 rotate_left
 ·have hs:stp (tog l) t p=p:=by unfold stp; rw [if_neg (fun h=>h2 h.2)]
  rw [hs]
  generalize (tog l).getD p 0=z at h2
  refine Aa1 ?_;refine Aca ?_;refine Abl ?_;refine DB ?_;refine AR ?_;refine Aal ?_;exact AK (res0 rfl) rsubZ selZ ⟨rfl,rfl⟩
 have hs:stp (tog l) t p=p+1:=by unfold stp; rw [if_pos ⟨by rw [tog_len]; exact h1,h2⟩]
 rw [hs,h2]
 have hod:=oddB_cases p
 have hi2:(p+1) / 2=if oddB p=true then p / 2+1 else p / 2:=by
  rcases hod with ⟨ho,hp2⟩|⟨ho,hp2⟩
  ·rw [if_pos ho]; omega
  ·rw [if_neg (by rw [ho]; simp)]; omega
 rw [hi2,oddB_succ]
 obtain ⟨i,hi⟩:∃ i,p / 2=i:=⟨_,rfl⟩
 rw [hi] at hod ⊢;clear hn
 rcases hod with ⟨ho,hp2⟩|⟨ho,hp2⟩
 ·rw [ho,if_pos rfl]
  refine Aa1 ?_;refine Aca ?_;refine Abl ?_;refine Ac2 ?_;refine Aah ?_;refine Aa5 ?_;refine Aal ?_;refine Acf ?_;refine Aa5 ?_;refine BY ?_;refine Aa2 ?_;refine BA ?_; rintro _ _ ⟨rfl,rfl⟩;refine AE ?_;refine Ab5 ?_;refine Aa5 ?_;refine BC ?_;refine Aa2 ?_;refine BA ?_; rintro _ _ ⟨rfl,rfl⟩;refine AE ?_;exact BW (res0 rfl) rsubZ selZ ⟨rfl,rfl⟩
 ·rw [ho,if_neg (by simp)]
  refine Aa1 ?_;refine Aca ?_;refine Abl ?_;refine Ac2 ?_;refine Aah ?_;refine Aa5 ?_;refine Aag ?_;refine Ab5 ?_;refine Aa5 ?_;refine BC ?_;refine Aa2 ?_;refine BA ?_; rintro _ _ ⟨rfl,rfl⟩;refine AE ?_;exact BW (res0 rfl) rsubZ selZ ⟨rfl,rfl⟩
def encPt (x:Int × Bool × Bool):List Value:=[int x.1,.agg #[.bool x.2.1,.bool x.2.2]]
theorem points_iter (ρ τ:PH) (va vb:Value) (a b:Iv) (b1 b2:Nat) (ha:SpAt ρ va a) (hb:SpAt τ vb b) (hla:a.length≤1000000) (hlb:b.length≤1000000) :
  Iter Tryz.prog (.func (.func 214) #[] #[.pointer (some ⟨b1,0,none⟩),.pointer (some ⟨b2,0,none⟩)]) [sng b1 (.cells #[va] 25 (0,0)),sng b2 (.cells #[vb] 25 (0,0)),ρ,τ] ((mrg (tog a) false (tog b) false).map encPt):=by
 intro y S Own Inv Stop Ry hy hyl σ0 hI0
 obtain ⟨yl,rfl⟩:=hyl
 have hna:=fun bx p hp=>sideNext_spec ρ va a bx p ha (by omega) hp
 have hnb:=fun bx p hp=>sideNext_spec τ vb b bx p hb (by omega) hp
 have hpa:=fun bx p t hp=>sidePass_spec ρ va a bx p t ha (by omega) hp
 have hpb:=fun bx p t hp=>sidePass_spec τ vb b bx p t hb (by omega) hp
 obtain ⟨qa,ca,rfl,hra⟩:=ha.val encS_len
 obtain ⟨qb,cb,rfl,hrb⟩:=hb.val encS_len
 have bx20_3:=rdB b1 25 [.slice qa a.length ca]
 have c1:=rdC bx20_3 0
 have bx21_3:=rdB b2 25 [.slice qb b.length cb]
 have c2:=rdC bx21_3 0
 have la:=tog_len a
 have lb:=tog_len b
 simp only [List.cons_append,List.nil_append]
 refine spec_in (cap:=[.pointer (some ⟨b1,0,none⟩),.pointer (some ⟨b2,0,none⟩)]) Tryz.func214 rfl rfl Tryz.ntmps214 rfl envZ (fun N β=>?_)
 refine AD ?_
 refine C3 (X:=Nat × Nat) [0,1,2] (fun _=>True) (fun x=>[(4,.pointer (some ⟨x.1,0,none⟩)),(5,.pointer (some ⟨x.2,0,none⟩))]) (fun x=>sng x.2 (.cells #[.slice qb b.length cb,int ((0 / 2:Nat):Int),.bool (oddB 0)] 336 (0,0))::sng x.1 (.cells #[.slice qa a.length ca,int ((0 / 2:Nat):Int),.bool (oddB 0)] 336 (0,0))::Own σ0) pickZ ?_ ?_
 ·refine BD (.q 0 (.q 1 (.q 3 (.q 4 (.l2 2 .e (.q 6 (.l 5 .e (.q 7 .nil))) 5 .e (.l 2 .e (.q 6 (.q 7 .nil)))))))) [] rfl (by kernel_rfl) Sel.nil ?_
  repeat' (first
   | (refine AP ?_)
   | (refine AS ?_)
   | (refine DT ?_)
   | (refine A7 ?_)
   | (refine CZ ?_ ?_)
   | (refine GT ?_; rintro _ _ ⟨b,rfl,rfl⟩)
   | (refine GS ?_; rintro _ _ ⟨b,rfl,rfl⟩)
   | fail)
  ·refine BB (_,_) trivial covZ ?_
   exact Sel.refl
  ·refine D5 (List.Perm.swap _ _ _) ?_
   refine BB (_,_) trivial covZ ?_;exact Sel.refl
 rintro ⟨bx,by_⟩ _
 dsimp only
 refine A8 ?_
 refine BX [0,1,2,4,5] (X:=Nat × Nat × Nat × S) (0,0,0,σ0) (fun x=>x.1≤(mrg (tog a) false (tog b) false).length∧x.2.1≤2*a.length∧x.2.2.1≤2*b.length∧(mrg (tog a) false (tog b) false).drop x.1=mrg ((tog a).drop x.2.1) (oddB x.2.1) ((tog b).drop x.2.2.1) (oddB x.2.2.1)∧Inv x.1 x.2.2.2) (fun _=>[]) (fun x=>sng by_ (.cells #[.slice qb b.length cb,int ((x.2.2.1 / 2:Nat):Int),.bool (oddB x.2.2.1)] 336 (0,0))::sng bx (.cells #[.slice qa a.length ca,int ((x.2.1 / 2:Nat):Int),.bool (oddB x.2.1)] 336 (0,0))::Own x.2.2.2) (fun x=>(2*a.length-x.2.1)+(2*b.length-x.2.2.1)) pickZ ⟨by dsimp only; omega,by dsimp only; omega,by dsimp only; omega,rfl,hI0⟩ covZ Sel.refl ?_
 rintro ⟨k,p,q,σ'⟩ ⟨hk,hp,hq,hS,hI⟩
 dsimp only at hk hp hq hS hI ⊢
 have h1:=hna bx p hp
 have h2:=hnb by_ q hq
 refine A8 ?_;refine Aab ?_;refine AW h1 rfl rfl rdZ rfl rfl ?_;rintro _ rfl;refine Aa1 ?_;refine Aab ?_;refine AW h2 rfl rfl rdZ rfl rfl ?_;rintro _ rfl
 generalize hm:(tog a).getD p 0=m
 generalize hn:(tog b).getD q 0=n
 by_cases h1:p<2*a.length
 ·rw [decide_eq_true h1]
  by_cases h2:q<2*b.length∧n<m
  ·have hX:nxtT (tog a) (tog b) p q=n:=by unfold nxtT; rw [if_pos (by omega),if_pos (by rw [hm,hn]; omega),hn]
   rw [decide_eq_true h2.1]
   have h2n:=h2.2
   have hlive:p<(tog a).length∨q<(tog b).length:=by omega
   have hS':=mrg_at (by omega) (by omega) hlive
   have hgo:=stp_go hlive
   rw [hX] at hS' hgo;rw [← hS] at hS'
   obtain ⟨g1,g2,g3⟩:=drop_head hS'
   have p1:=stp_le (A:=tog a) (t:=n) (p:=p) (by omega)
   have q1:=stp_le (A:=tog b) (t:=n) (p:=q) (by omega)
   have hy1:=hy k σ' (encPt (n,oddB (stp (tog a) n p),oddB (stp (tog b) n q))) (by rw [List.getElem?_map,g1]; rfl) hI
   have k1:=hpa bx p n hp
   have k2:=hpb by_ q n hq
   generalize stp (tog a) n p=p' at g2 hy1 k1 p1 hgo
   generalize stp (tog b) n q=q' at g2 hy1 k2 q1 hgo
   refine Ada ?_;refine BC ?_;refine Abf ?_;refine Aa3 ?_;refine Aab ?_;refine Aa7 ?_;refine Acq ?_;refine Abl ?_;refine CC ?_;refine A4 ?_;refine AR ?_;refine Aal ?_;refine Acf ?_;refine Acd ?_;refine BG k1 rfl rfl takesZ rdZ rfl rfl ?_;rintro _ _ ⟨rfl,rfl⟩;refine Ac3 ?_;refine BG k2 rfl rfl takesZ rdZ rfl rfl ?_;rintro _ _ ⟨rfl,rfl⟩;refine Aat ?_
   refine BD (.q 0 (.q 1 (.q 2 (.q 3 (.q 4 (.q 5 (.q 6 (.q 7 (.q 8 (.q 9 (.q 10 (.l 11 .b (.q 12 .nil))))))))))))) [] rfl (by kernel_rfl) Sel.nil ?_
   refine Acc ?_;refine Ab2 ?_
   focus ((refine' CF rfl _ rfl rfl rfl rfl _; rotate_left; (focus (apply DL; exact rfl; exact rfl; exact rfl; exact rfl; exact rfl; exact rfl; exact rfl))))
   refine BL (CD rfl hy1 rfl rfl (Takes.skip (Takes.skip Takes.all)) (fun τ hτ=>.inl (by simp [hτ])) rfl rfl (fun _ _ _ w hw=>hw.sel Sel.nil) ?_)
   rintro _ H' ⟨σ1,rfl,⟨rfl,hI1⟩|⟨rfl,hSt⟩⟩
   ·refine EG (H':=_::_::Own σ1) (List.perm_append_comm (l₂:=[_,_])) ?_
    refine C8 ?_;refine Abx ?_;refine BI ?_
    exact BH (k+1,p',q',σ1) ⟨by dsimp only; omega,by dsimp only; omega,by dsimp only; omega,g2,hI1⟩ (by dsimp only; omega) covZ Sel.refl
   ·refine C8 ?_
    refine Acl ?_
    exact AK (res0 rfl) (fun _ h=>h) Sel.left ⟨σ1,rfl,.inr hSt⟩
  ·have hX:nxtT (tog a) (tog b) p q=m:=by unfold nxtT; rw [if_pos (by omega),if_neg (by rw [hm,hn]; omega),hm]
   by_cases h3:q<2*b.length
   ·rw [decide_eq_true h3]
    have h2n:¬ n<m:=fun h=>h2 ⟨h3,h⟩
    have hlive:p<(tog a).length∨q<(tog b).length:=by omega
    have hS':=mrg_at (by omega) (by omega) hlive
    have hgo:=stp_go hlive
    rw [hX] at hS' hgo;rw [← hS] at hS'
    obtain ⟨g1,g2,g3⟩:=drop_head hS'
    have p1:=stp_le (A:=tog a) (t:=m) (p:=p) (by omega)
    have q1:=stp_le (A:=tog b) (t:=m) (p:=q) (by omega)
    have hy1:=hy k σ' (encPt (m,oddB (stp (tog a) m p),oddB (stp (tog b) m q))) (by rw [List.getElem?_map,g1]; rfl) hI
    have k1:=hpa bx p m hp
    have k2:=hpb by_ q m hq
    generalize stp (tog a) m p=p' at g2 hy1 k1 p1 hgo
    generalize stp (tog b) m q=q' at g2 hy1 k2 q1 hgo
    refine Ada ?_;refine BC ?_;refine Abf ?_;refine Aa3 ?_;refine Aab ?_;refine Aa7 ?_;refine Acq ?_;refine Abl ?_;refine BN ?_;refine A4 ?_;refine Aa3 ?_;refine Aar ?_;refine BG k1 rfl rfl takesZ rdZ rfl rfl ?_;rintro _ _ ⟨rfl,rfl⟩;refine Ac3 ?_;refine BG k2 rfl rfl takesZ rdZ rfl rfl ?_;rintro _ _ ⟨rfl,rfl⟩;refine Aat ?_
    refine BD (.q 0 (.q 1 (.q 2 (.q 3 (.q 4 (.q 5 (.q 6 (.q 7 (.q 8 (.q 9 (.q 10 (.l 11 .b (.q 12 .nil))))))))))))) [] rfl (by kernel_rfl) Sel.nil ?_
    refine Acc ?_;refine Ab2 ?_
    focus ((refine' CF rfl _ rfl rfl rfl rfl _; rotate_left; (focus (apply DL; exact rfl; exact rfl; exact rfl; exact rfl; exact rfl; exact rfl; exact rfl))))
    refine BL (CD rfl hy1 rfl rfl (Takes.skip (Takes.skip Takes.all)) (fun τ hτ=>.inl (by simp [hτ])) rfl rfl (fun _ _ _ w hw=>hw.sel Sel.nil) ?_)
    rintro _ H' ⟨σ1,rfl,⟨rfl,hI1⟩|⟨rfl,hSt⟩⟩
    ·refine EG (H':=_::_::Own σ1) (List.perm_append_comm (l₂:=[_,_])) ?_
     refine C8 ?_;refine Abx ?_;refine BI ?_
     exact BH (k+1,p',q',σ1) ⟨by dsimp only; omega,by dsimp only; omega,by dsimp only; omega,g2,hI1⟩ (by dsimp only; omega) covZ Sel.refl
    ·refine C8 ?_
     refine Acl ?_
     exact AK (res0 rfl) (fun _ h=>h) Sel.left ⟨σ1,rfl,.inr hSt⟩
   ·rw [decide_eq_false h3]
    have hlive:p<(tog a).length∨q<(tog b).length:=by omega
    have hS':=mrg_at (by omega) (by omega) hlive
    have hgo:=stp_go hlive
    rw [hX] at hS' hgo;rw [← hS] at hS'
    obtain ⟨g1,g2,g3⟩:=drop_head hS'
    have p1:=stp_le (A:=tog a) (t:=m) (p:=p) (by omega)
    have q1:=stp_le (A:=tog b) (t:=m) (p:=q) (by omega)
    have hy1:=hy k σ' (encPt (m,oddB (stp (tog a) m p),oddB (stp (tog b) m q))) (by rw [List.getElem?_map,g1]; rfl) hI
    have k1:=hpa bx p m hp
    have k2:=hpb by_ q m hq
    generalize stp (tog a) m p=p' at g2 hy1 k1 p1 hgo
    generalize stp (tog b) m q=q' at g2 hy1 k2 q1 hgo
    refine Ada ?_;refine BC ?_;refine Abf ?_;refine Aa3 ?_;refine Aab ?_;refine Aa7 ?_;refine BC ?_;refine Abl ?_;refine Aa0 ?_;refine AR ?_;refine Aa3 ?_;refine Aar ?_;refine BG k1 rfl rfl takesZ rdZ rfl rfl ?_;rintro _ _ ⟨rfl,rfl⟩;refine Ac3 ?_;refine BG k2 rfl rfl takesZ rdZ rfl rfl ?_;rintro _ _ ⟨rfl,rfl⟩;refine Aat ?_
    refine BD (.q 0 (.q 1 (.q 2 (.q 3 (.q 4 (.q 5 (.q 6 (.q 7 (.q 8 (.q 9 (.q 10 (.l 11 .b (.q 12 .nil))))))))))))) [] rfl (by kernel_rfl) Sel.nil ?_
    refine Acc ?_;refine Ab2 ?_
    focus ((refine' CF rfl _ rfl rfl rfl rfl _; rotate_left; (focus (apply DL; exact rfl; exact rfl; exact rfl; exact rfl; exact rfl; exact rfl; exact rfl))))
    refine BL (CD rfl hy1 rfl rfl (Takes.skip (Takes.skip Takes.all)) (fun τ hτ=>.inl (by simp [hτ])) rfl rfl (fun _ _ _ w hw=>hw.sel Sel.nil) ?_)
    rintro _ H' ⟨σ1,rfl,⟨rfl,hI1⟩|⟨rfl,hSt⟩⟩
    ·refine EG (H':=_::_::Own σ1) (List.perm_append_comm (l₂:=[_,_])) ?_
     refine C8 ?_;refine Abx ?_;refine BI ?_
     exact BH (k+1,p',q',σ1) ⟨by dsimp only; omega,by dsimp only; omega,by dsimp only; omega,g2,hI1⟩ (by dsimp only; omega) covZ Sel.refl
    ·refine C8 ?_
     refine Acl ?_
     exact AK (res0 rfl) (fun _ h=>h) Sel.left ⟨σ1,rfl,.inr hSt⟩
 ·rw [decide_eq_false h1]
  by_cases h2:q<2*b.length
  ·have hX:nxtT (tog a) (tog b) p q=n:=by unfold nxtT; rw [if_neg (by omega),hn]
   rw [decide_eq_true h2]
   have hlive:p<(tog a).length∨q<(tog b).length:=by omega
   have hS':=mrg_at (by omega) (by omega) hlive
   have hgo:=stp_go hlive
   rw [hX] at hS' hgo;rw [← hS] at hS'
   obtain ⟨g1,g2,g3⟩:=drop_head hS'
   have p1:=stp_le (A:=tog a) (t:=n) (p:=p) (by omega)
   have q1:=stp_le (A:=tog b) (t:=n) (p:=q) (by omega)
   have hy1:=hy k σ' (encPt (n,oddB (stp (tog a) n p),oddB (stp (tog b) n q))) (by rw [List.getElem?_map,g1]; rfl) hI
   have k1:=hpa bx p n hp
   have k2:=hpb by_ q n hq
   generalize stp (tog a) n p=p' at g2 hy1 k1 p1 hgo
   generalize stp (tog b) n q=q' at g2 hy1 k2 q1 hgo
   refine Ada ?_;refine Acq ?_;refine BC ?_;refine A4 ?_;refine Aag ?_;refine Aab ?_;refine Aa7 ?_;refine BC ?_;refine Acn ?_;refine Abr ?_;refine Acf ?_;refine Acd ?_;refine BG k1 rfl rfl takesZ rdZ rfl rfl ?_;rintro _ _ ⟨rfl,rfl⟩;refine Ac3 ?_;refine BG k2 rfl rfl takesZ rdZ rfl rfl ?_;rintro _ _ ⟨rfl,rfl⟩;refine Aat ?_
   refine BD (.q 0 (.q 1 (.q 2 (.q 3 (.q 4 (.q 5 (.q 6 (.q 7 (.q 8 (.q 9 (.q 10 (.l 11 .b (.q 12 .nil))))))))))))) [] rfl (by kernel_rfl) Sel.nil ?_
   refine Acc ?_;refine Ab2 ?_
   focus ((refine' CF rfl _ rfl rfl rfl rfl _; rotate_left; (focus (apply DL; exact rfl; exact rfl; exact rfl; exact rfl; exact rfl; exact rfl; exact rfl))))
   refine BL (CD rfl hy1 rfl rfl (Takes.skip (Takes.skip Takes.all)) (fun τ hτ=>.inl (by simp [hτ])) rfl rfl (fun _ _ _ w hw=>hw.sel Sel.nil) ?_)
   rintro _ H' ⟨σ1,rfl,⟨rfl,hI1⟩|⟨rfl,hSt⟩⟩
   ·refine EG (H':=_::_::Own σ1) (List.perm_append_comm (l₂:=[_,_])) ?_
    refine C8 ?_;refine Abx ?_;refine BI ?_
    exact BH (k+1,p',q',σ1) ⟨by dsimp only; omega,by dsimp only; omega,by dsimp only; omega,g2,hI1⟩ (by dsimp only; omega) covZ Sel.refl
   ·refine C8 ?_
    refine Acl ?_
    exact AK (res0 rfl) (fun _ h=>h) Sel.left ⟨σ1,rfl,.inr hSt⟩
  ·rw [decide_eq_false h2]
   have hpe:p=(tog a).length:=by omega
   have hqe:q=(tog b).length:=by omega
   rw [hpe,hqe,mrg_end] at hS
   have hke:k=(mrg (tog a) false (tog b) false).length:=by
    have:=List.drop_eq_nil_iff.1 hS
    omega
   refine Ada ?_;refine Acq ?_;refine BC ?_;refine Abr ?_
   refine AK (res0 rfl) (fun _ h=>h) (Sel.skip (Sel.skip Sel.refl)) ⟨σ',rfl,.inl ?_⟩
   rw [List.length_map,← hke];exact hI
theorem points_spec (v u:Value) (hv:v.oneCell'=true) (hu:u.oneCell'=true) :
  Eng.Spec Tryz.prog (fv 191) [v,u] [] [] (fun r H'=>∃ b1 b2,r=.func (.func 214) #[] #[.pointer (some ⟨b1,0,none⟩),.pointer (some ⟨b2,0,none⟩)]∧H'=[sng b2 (.cells #[u] 25 (0,0)),sng b1 (.cells #[v] 25 (0,0))]):=by
 refine spec_in (cap:=[]) Tryz.func191 rfl rfl Tryz.ntmps191 rfl envZ (fun N β=>?_)
 refine Aa ?_;refine BK (DW rfl hv) rfl rfl rfl ?_;rintro _ _ ⟨b1,rfl,rfl⟩;refine BK (DW rfl hu) rfl rfl rfl ?_;rintro _ _ ⟨b2,rfl,rfl⟩;refine Aaa ?_;refine Aa ?_;refine B0 ?_;refine Aaa ?_;exact AK (res1 rfl rfl) rsubZ selZ ⟨b1,b2,rfl,rfl⟩
theorem ivCombine_spec (ρ τ:PH) (va vb:Value) (gf:FuncId) (a b:Iv) (f:Bool→Bool→Bool) (ha:SpAt ρ va a) (hb:SpAt τ vb b) (h0a:chkI a=0) (h0b:chkI b=0) (hlen:a.length+b.length≤1000) (hf:f false false=false)
  (hfn:∀ x y,Ans Tryz.prog (.func (.func gf) #[] #[]) [.bool x,.bool y] [] (fun r=>r=.bool (f x y))) :
  Makes Tryz.prog (fv 146) [va,vb,.func (.func gf) #[] #[]] [ρ,τ] (fun r σ=>∃ u,r=.tuple #[u,int 0]∧OwnS 49 2 u (combI f a b).length ((combI f a b).flatMap encS) σ):=by
 have hca:=ivCheck_spec ρ va a ha (by omega)
 have hcb:=ivCheck_spec τ vb b hb (by omega)
 rw [h0a] at hca;rw [h0b] at hcb
 have hpts:=fun b1 b2=>points_iter ρ τ va vb a b b1 b2 ha hb (by omega) (by omega)
 have hcl:=(combI_ok hf (chkI_norm h0a).2.1 (chkI_norm h0b).2.1).2.2
 have hml:=mrg_len _ (tog a) false (tog b) false (Nat.le_refl _)
 rw [tog_len,tog_len] at hml
 obtain ⟨qa,ca,rfl,_⟩:=ha.val encS_len
 obtain ⟨qb,cb,rfl,_⟩:=hb.val encS_len
 refine spec_in (cap:=[]) Tryz.func146 rfl rfl Tryz.ntmps146 rfl envZ (fun N β=>?_)
 refine CB ?_;refine Aa ?_;refine D0 ?_; rintro _ _ ⟨b,rfl,rfl⟩;refine Aai ?_;refine Aah ?_
 revert b; intro b5
 refine AZ (ρ:=sng b5 _) takeZ ?_
 have bx55_3:=rdB b5 248 [.func (.func gf) #[] #[]]
 have g5:=rdC bx55_3 0
 refine AW hca rfl rfl rdZ rfl rfl ?_;rintro _ rfl;refine BJ ?_;refine Aak ?_;refine AW hcb rfl rfl rdZ rfl rfl ?_;rintro _ rfl;refine Ac2 ?_;refine Aa ?_;refine CQ ?_; rintro _ _ ⟨b,rfl,rfl⟩;refine Ab3 ?_;refine CQ ?_; rintro _ _ ⟨b,rfl,rfl⟩;refine BA ?_; rintro _ _ ⟨rfl,rfl⟩;refine Ac1 ?_;refine AB ?_
 revert b; intro b9
 revert b; intro b8
 refine BG (points_spec (.slice qa a.length ca) (.slice qb b.length cb) rfl rfl) rfl rfl Takes.nil (fun τ hτ=>by simp at hτ) rfl rfl ?_
 rintro _ _ ⟨b1,b2,rfl,rfl⟩;refine AZ (ρ:=sng b1 _) takeZ ?_;refine AZ (ρ:=sng b2 _) takeZ ?_;refine AE ?_;refine A8 ?_
 refine E0 (gf:=214) (cap:=[.pointer (some ⟨b1,0,none⟩),.pointer (some ⟨b2,0,none⟩)]) (ps:=[24,25]) (X:=Value × Bool × PH) rfl Tryz.func214 rfl rfl
  (hpts b1 b2) ?_
  (fun i x=>x.2.1=oddB (mcomb f ((mrg (tog a) false (tog b) false).take i) []).length∧OwnS 49 2 x.1 (spans (mcomb f ((mrg (tog a) false (tog b) false).take i) [])).length ((spans (mcomb f ((mrg (tog a) false (tog b) false).take i) [])).flatMap encS) x.2.2)
  (fun x=>[sng b8 (.cells #[x.1] 25 (0,0)),sng b9 (.cells #[.bool x.2.1] 4 (0,0)),x.2.2]) (fun _ _=>False) (.slice none 0 0,false,emp) rfl takesZ ⟨rfl,OwnS.nil _ _⟩ ?_ ?_ ?_
 ·intro σ' hσ
  simp only [List.mem_cons,List.not_mem_nil,or_false] at hσ ⊢
  rcases hσ with h|h|h|h <;> simp [h]
 ·rintro lo r i ⟨u,ins,σ⟩ vs hvs ⟨hins,hO⟩ hps has hbd hst hpe hfr
  obtain ⟨st,pe,fnn,tm,prm,asg,bdy,df⟩:=r
  simp only at hps has hbd hst hpe hfr;subst hps has hbd hst hpe;rw [List.getElem?_map] at hvs
  obtain ⟨⟨t,x,y⟩,hc,rfl⟩:=Option.map_eq_some_iff.1 hvs
  have hnx:=mcomb_next f hc []
  have hOl:=mcomb_len f ((mrg (tog a) false (tog b) false).take i) []
  have hti:((mrg (tog a) false (tog b) false).take i).length≤(mrg (tog a) false (tog b) false).length:=by rw [List.length_take]; omega
  dsimp only at hins hO
  have hsl:=spans_len (mcomb f ((mrg (tog a) false (tog b) false).take i) [])
  simp only [hnx]
  generalize mcomb f ((mrg (tog a) false (tog b) false).take i) []=O at hins hO hOl hsl
  simp only [List.length_nil] at hOl
  have hone:∀ z n (xs:List Value) (χ:PH),OwnS 49 2 z n xs χ→z.oneCell'=true:=fun z n xs χ h=>by obtain ⟨_,_,rfl⟩:=h.form; rfl
  have hu1:=hone _ _ _ _ hO
  have hfxy:=hfn x y
  have hm1:mcomb1 f O (t,x,y)=if f x y=oddB O.length then O else O ++ [t]:=rfl
  refine yield_spec hfr rfl (by intro p hp; simp at hp; omega) putiZ (fun N' β'=>?_)
  dsimp only
  refine Aan ?_;refine AA ?_;refine A6 ?_; rintro _ _ ⟨b,rfl,rfl⟩;refine AX ?_; rintro _ _ ⟨rfl,rfl⟩;refine AE ?_;refine DX rfl rfl ?_;refine D4 takeZ rfl ?_
  revert b; intro bx
  refine A8 ?_;refine Acp ?_
  focus ((refine BQ (GV rfl rfl rfl rfl (by decide)) rfl rfl rfl ?_))
  refine AG ?_
  focus ((refine BQ (GW rfl rfl rfl rfl (by decide)) rfl rfl rfl ?_))
  refine AG ?_;refine AW hfxy rfl rfl rdZ rfl rfl ?_;rintro _ rfl
  cases hfv:f x y with
  | true =>
   cases ins with
   | true =>
    rw [hfv,← hins,if_pos rfl] at hm1;refine Aaa ?_;refine Aa4 ?_;refine Aar ?_;refine AG ?_;refine BC ?_;refine Abi ?_;refine AL rfl ?_;refine Aca ?_;refine AB ?_;refine AM rfl rfl rfl ?_;refine AR ?_;refine Aaa ?_;refine Aaf ?_;refine Aa9 ?_;refine AB ?_;refine BA ?_; rintro _ _ ⟨rfl,rfl⟩;refine AE ?_;refine BI ?_
    exact CP takeZ rsubZ selZ ⟨(u,true,σ),.inl ⟨rfl,⟨by rw [hm1]; exact hins,by rw [hm1]; exact hO⟩,rfl⟩⟩
   | false =>
    rw [hfv,← hins,if_neg (by simp)] at hm1
    have hsp:=spans_even t hins.symm
    refine Aaa ?_;refine Aa4 ?_;refine Aar ?_;refine AG ?_;refine BC ?_;refine Abi ?_;refine A5 rfl ?_;refine AA ?_;refine AG ?_;refine AB ?_;refine B5 ?_;refine BS ?_; rintro _ _ ⟨b,rfl,rfl⟩
    refine BK (CV (by_:=16) (s:=2) (news:=[int t,int 0]) rfl rfl rfl rfl rfl rfl rfl hO takeZ (cells_own memZ) rfl oneZ (by omega) (by simp only [maxLen]; omega) (by omega)) rfl rfl rfl ?_
    rintro u1 _ ⟨σ1,hO1,rfl⟩
    have hu2:=hone _ _ _ _ hO1
    refine BA ?_; rintro _ _ ⟨rfl,rfl⟩;refine AE ?_;refine Aa9 ?_;refine AB ?_;refine BA ?_; rintro _ _ ⟨rfl,rfl⟩;refine AE ?_;refine BI ?_;refine CP takeZ rsubZ selZ ⟨(u1,true,σ1),.inl ⟨rfl,⟨?_,?_⟩,rfl⟩⟩
    ·dsimp only
     rw [hm1,List.length_append,List.length_singleton,oddB_succ,← hins]; rfl
    ·dsimp only
     rw [hm1,hsp,List.length_append,List.flatMap_append];exact hO1
  | false =>
   cases ins with
   | false =>
    rw [hfv,← hins,if_pos rfl] at hm1;refine Aaa ?_;refine Aa4 ?_;refine Aar ?_;refine Aac ?_;refine AR ?_;refine Ab8 ?_;refine Aca ?_;refine AB ?_;refine AG ?_;refine Abi ?_;refine Aaf ?_;refine Aa9 ?_;refine AB ?_;refine BA ?_; rintro _ _ ⟨rfl,rfl⟩;refine AE ?_;refine BI ?_
    exact CP takeZ rsubZ selZ ⟨(u,false,σ),.inl ⟨rfl,⟨by rw [hm1]; exact hins,by rw [hm1]; exact hO⟩,rfl⟩⟩
   | true =>
    rw [hfv,← hins,if_neg (by simp)] at hm1
    obtain ⟨l,c,e1,e2⟩:=spans_odd t hins.symm
    rw [e1] at hO hsl
    have hll:(l ++ [(c,(0:Int))]).length=l.length+1:=by simp
    obtain ⟨bu,cu,rfl⟩:=hO.formP (by omega)
    have hget:(l ++ [(c,(0:Int))])[(l ++ [(c,(0:Int))]).length-1]?=some (c,0):=by simp
    refine Aaa ?_;refine Aa4 ?_;refine Aar ?_;refine Aac ?_;refine AR ?_;refine Ab8 ?_;refine Aca ?_;refine AB ?_;refine AG ?_;refine Abi ?_;refine A5 rfl ?_;refine AA ?_;refine AG ?_;refine AG ?_;refine BF ?_;refine CN ?_;refine AB ?_;refine CK ?_;refine DF ?_
    refine BR (D7 encS_len (s:=2) ((l ++ [(c,(0:Int))]).length-1) 1 (c,t) hO rfl (by simp; rfl) (by decide) hget rfl rfl rfl rfl takeZ) rfl rfl ?_
    rintro _ _ ⟨rfl,σ1,hO1,rfl⟩;refine AE ?_;refine Aa9 ?_;refine AB ?_;refine BA ?_; rintro _ _ ⟨rfl,rfl⟩;refine AE ?_;refine BI ?_;refine CP takeZ rsubZ selZ ⟨(.slice (some ⟨bu,0,none⟩) (l ++ [(c,(0:Int))]).length cu,false,σ1),.inl ⟨rfl,⟨?_,?_⟩,rfl⟩⟩
    ·dsimp only
     rw [hm1,List.length_append,List.length_singleton,oddB_succ,← hins]; rfl
    ·dsimp only
     rw [hm1,e2]
     have es:(l ++ [(c,(0:Int))]).set ((l ++ [(c,(0:Int))]).length-1) (c,t)=l ++ [(c,t)]:=by simp
     rw [es] at hO1
     simpa using hO1
 ·rintro b2' ⟨u,ins,σ⟩ ⟨hins,hO⟩
  rw [List.length_map,List.take_length] at hins hO
  dsimp only at hins hO
  have hO2:OwnS 49 2 u (combI f a b).length ((combI f a b).flatMap encS) σ:=hO
  obtain ⟨p,c,rfl⟩:=hO2.form
  clear hO
  generalize combI f a b=out at hO2 hcl
  refine BI ?_;refine AD ?_;refine Acp ?_;refine BF ?_;refine BP ?_;refine Aag ?_;refine Acp ?_;refine Aai ?_;exact EQ (Marks.cons .here .nil) (res2 rfl rfl rfl) rsubZ selZ ⟨σ,⟨_,rfl,hO2⟩,rfl⟩
 ·rintro _ _ _ h; exact h.elim
theorem trimR_spec (k:Nat) (hk:k≤9223372036854775807):Ans Tryz.prog (fv 91) [str (List.replicate k 0),.int .u8 0] [] (fun r=>r=str []):=by
 refine spec_in (cap:=[]) Tryz.func91 rfl rfl Tryz.ntmps91 rfl envZ (fun N β=>?_)
 refine Aan ?_;refine Aa4 ?_
 refine BX [1,4] k (fun j=>j≤k) (fun j=>[(0,str (List.replicate j 0))]) (fun _=>[]) (fun j=>j) pickZ (Nat.le_refl _) covZ selZ ?_
 rintro j hj
 have hl:(List.replicate j (0:UInt8)).length=j:=List.length_replicate
 by_cases h0:j=0
 ·subst h0
  refine Aah ?_
  focus ((refine' BQ _ rfl rfl rfl _; rotate_left; (apply B4; exact rfl; exact rfl)))
  refine BP ?_;refine Abv ?_;refine Aa0 ?_;refine AR ?_;refine AE ?_;refine Aay ?_;refine Abn ?_;exact BE ⟨rfl,rfl⟩
 ·have hb:(List.replicate j (0:UInt8))[(List.replicate j (0:UInt8)).length-1]?=some 0:=by rw [hl,List.getElem?_replicate,if_pos (by omega)]
  have ht:(List.replicate j (0:UInt8)).take ((List.replicate j (0:UInt8)).length-1)=List.replicate (j-1) 0:=by rw [hl,List.take_replicate]; congr 1; omega
  refine Aah ?_
  focus ((refine' BQ _ rfl rfl rfl _; rotate_left; (apply B4; exact rfl; exact rfl)))
  refine C9 ?_;refine Abl ?_
  focus ((refine' BQ _ rfl rfl rfl _; rotate_left; (apply B4; exact rfl; exact rfl)))
  refine CN ?_
  focus ((refine BQ (EF (i:=(List.replicate j (0:UInt8)).length-1) rfl rfl rfl hb) rfl rfl rfl ?_))
  refine AB ?_;refine CM ?_;refine Abr ?_;refine AN ?_;refine A8 ?_;refine Ab5 ?_
  focus ((refine' BQ _ rfl rfl rfl _; rotate_left; (apply B4; exact rfl; exact rfl)))
  refine CN ?_
  focus ((refine BQ (q_cutH (j:=(List.replicate j (0:UInt8)).length-1) rfl rfl rfl (by omega)) rfl rfl rfl ?_))
  refine Aaa ?_;refine BI ?_;rw [ht]
  skip
  exact BH (j-1) (by omega) (by omega) covZ selZ
theorem trimL_spec:Ans Tryz.prog (fv 90) [str [],.int .u8 0] [] (fun r=>r=str []):=by
 refine spec_in (cap:=[]) Tryz.func90 rfl rfl Tryz.ntmps90 rfl envZ (fun N β=>?_)
 refine Aan ?_;refine Aa4 ?_
 refine BX [0,1,4] () (fun _=>True) (fun _=>[]) (fun _=>[]) (fun _=>0) pickZ trivial covZ selZ ?_
 rintro _ _
 have hl:([]:List UInt8).length=0:=rfl
 refine Aah ?_
 focus ((refine' BQ _ rfl rfl rfl _; rotate_left; (apply B4; exact rfl; exact rfl)))
 refine BP ?_;refine Abv ?_;refine AR ?_;refine AE ?_;refine Aay ?_;refine Abn ?_;exact BE ⟨rfl,rfl⟩
theorem trim_spec (k:Nat) (hk:k≤9223372036854775807):Ans Tryz.prog (fv 45) [str (List.replicate k 0),str [0]] [] (fun r=>r=str []):=by
 have h1:=trimR_spec k hk
 have h2:=trimL_spec
 have hl1:([0]:List UInt8).length=1:=rfl
 have e0:(([0]:List UInt8) == [])=false:=rfl
 refine spec_in (cap:=[]) Tryz.func45 rfl rfl Tryz.ntmps45 rfl envZ (fun N β=>?_)
 by_cases h0:k=0
 ·subst h0
  refine Ab0 ?_;refine BQ (EU rfl rfl) rfl rfl rfl ?_;refine Abf ?_;refine Abr ?_;refine Abn ?_;exact BE ⟨rfl,rfl⟩
 ·have e1:(List.replicate k (0:UInt8) == [])=false:=by
   cases k with
   | zero=>exact absurd rfl h0
   | succ k=>rfl
  refine Ab0 ?_;refine BQ (EU rfl rfl) rfl rfl rfl ?_;rw [e1];refine Aak ?_
  focus ((refine' BQ _ rfl rfl rfl _; rotate_left; (apply EU; exact rfl; exact rfl)))
  refine Aa3 ?_;refine Aah ?_
  focus ((refine' BQ _ rfl rfl rfl _; rotate_left; (apply B4; exact rfl; exact rfl)))
  refine CM ?_;refine Aak ?_
  focus ((refine' BQ _ rfl rfl rfl _; rotate_left; (apply EF (i:=0); exact rfl; exact rfl; exact rfl; exact rfl)))
  refine CC ?_;refine Abr ?_;refine AD ?_
  refine BD (.q 0 (.q 1 (.q 2 (.q 4 (.q 5 (.l 3 .e (.l 6 .e (.q 7 .nil)))))))) [] rfl (by kernel_rfl) Sel.nil ?_
  refine Acc ?_
  focus ((refine' CF rfl _ rfl rfl rfl rfl _; rotate_left; (apply EF (i:=0); exact rfl; exact rfl; exact rfl; exact rfl)))
  refine AJ ?_
  focus ((refine' CF rfl _ rfl rfl rfl rfl _; rotate_left; (apply EF (i:=0); exact rfl; exact rfl; exact rfl; exact rfl)))
  refine BL (CS rfl h1 rfl rfl rdZ rfl rfl ?_);rintro _ rfl
  skip
  refine BL (CS rfl h2 rfl rfl rdZ rfl rfl ?_);rintro _ rfl;refine Aam ?_
  skip
  exact BE ⟨rfl,rfl⟩
theorem rcvEmpty_spec (b1 b3:Nat) (se tot:Int) (u:Value) (dat:List UInt8) (x y:Nat) (hxy:x≤y) (hy:y≤dat.length) (hd:dat.length≤1999) (hz:(dat.drop x).take (y-x)=List.replicate (y-x) 0) :
  Ans Tryz.prog (.func (.func 44) #[] #[.pointer (some ⟨b1,0,none⟩),.pointer (some ⟨b3,0,none⟩)]) [int (y:Int)] [sng b1 (.cells #[int se,int tot,u,str dat] 41 (0,0)),sng b3 (.cells #[int (x:Int)] 3 (0,0))] (fun r=>r=.bool true):=by
 have ht:=trim_spec (y-x) (by omega)
 have bx195_3:=rdB b1 41 [int se,int tot,u,str dat]
 have f3:=rdC bx195_3 3
 have bx196_3:=rdB b3 3 [int (x:Int)]
 have g0:=rdC bx196_3 0
 refine spec_in (cap:=[.pointer (some ⟨b1,0,none⟩),.pointer (some ⟨b3,0,none⟩)]) Tryz.func44 rfl rfl Tryz.ntmps44 rfl envZ (fun N β=>?_)
 refine Aan ?_;refine Aao ?_;refine AG ?_;refine AB ?_;refine BQ (EO (i:=x) (j:=y) rfl rfl rfl rfl hxy hy) rfl rfl rfl ?_;rw [hz];refine AW ht rfl rfl rdZ rfl rfl ?_;rintro _ rfl;refine BQ (EU rfl rfl) rfl rfl rfl ?_;refine Aaa ?_;exact BE ⟨rfl,rfl⟩
theorem rcvChk_spec {ρ:PH} {se:Int} {d:List UInt8} {K:Iv} {p:Option Addr} {c:Nat} (hv:SpAt ρ (.slice p K.length c) K) (hK:InI d.length K) (hn1:1≤d.length) (hn:d.length≤990) (hse:0≤se∧se≤1099511627776) :
  Ans Tryz.prog (fv 19) [.agg #[int se,int (totR d K),.slice p K.length c,str (datR d K)]] [ρ] (fun r=>r=int 0):=by
 have hKl:=hK.len (by omega)
 have hc:=ivCheck_spec ρ _ K hv (by omega)
 rw [hK.chk (by omega) (by omega)] at hc
 obtain ⟨h6,h7⟩:=hse
 obtain ⟨q,cc,e0,hr⟩:=hv.val encS_len
 simp only [Value.slice.injEq] at e0
 obtain ⟨rfl,_,rfl⟩:=e0
 by_cases hk0:K=[]
 ·subst hk0
  have e1:totR d [] = -1:=rfl
  have e2:datR d []=[]:=rfl
  rw [e1,e2]
  have hl0:([]:Iv).length=0:=rfl
  have hl1:([]:List UInt8).length=0:=rfl
  have hemp:=fun b1 b3=>rcvEmpty_spec b1 b3 se (-1) (.slice p ([]:Iv).length c) [] 0 0 (Nat.le_refl _) (Nat.zero_le _) (by omega) rfl
  refine spec_in (cap:=[]) Tryz.func19 rfl rfl Tryz.ntmps19 rfl envZ (fun N β=>?_)
  refine Aa ?_;refine BK (BM rfl) rfl rfl rfl ?_;rintro _ _ ⟨b1,rfl,rfl⟩;refine AZ (ρ:=sng b1 _) takeZ ?_
  have cr:=rdB b1 41 [int se,int (-1),.slice p ([]:Iv).length c,str []]
  have cr0:=rdC cr 0
  have cr1:=rdC cr 1
  have cr2:=rdC cr 2
  have cr3:=rdC cr 3
  refine Aaa ?_;refine Aba ?_;refine BN ?_;refine Aap ?_;refine Ac4 ?_;refine BJ ?_;refine Acn ?_;refine Aac ?_;refine AR ?_;refine Aa3 ?_;refine Aba ?_;refine AW hc rfl rfl rdZ rfl rfl ?_;rintro _ rfl;refine BJ ?_;refine Aap ?_;refine BF ?_;refine CM ?_;refine Aae ?_;refine CM ?_
  focus ((refine' BQ _ rfl rfl rfl _; rotate_left; (apply E2; exact rfl; exact rfl; exact rfl)))
  refine Aa3 ?_;refine Acz ?_
  refine BD P2Z [] rfl (by kernel_rfl) Sel.nil ?_
  refine Aaj ?_;refine CT ?_;refine DA ?_;refine Acv ?_;refine Ack ?_;refine Ab ?_;refine BU ?_;refine Abx ?_;refine Aba ?_
  focus ((refine' BQ _ rfl rfl rfl _; rotate_left; (apply B4; exact rfl; exact rfl)))
  refine Aae ?_;refine GE ?_;refine Abh ?_;refine Aa ?_;refine CQ ?_; rintro _ _ ⟨b,rfl,rfl⟩;refine BA ?_; rintro _ _ ⟨rfl,rfl⟩;refine Ab3 ?_;refine B0 ?_;refine Aaa ?_;refine Aba ?_;refine Abw ?_
  revert b; intro b3
  refine BX [0,1,3,4,79,80] () (fun _=>True) (fun _=>[(81,int 0)]) (fun _=>[sng b3 (.cells #[int ((0:Nat):Int)] 3 (0,0))]) (fun _=>0) pickZ trivial covZ selZ ?_
  rintro _ _;refine Aby ?_;refine Aah ?_;refine Aae ?_
  focus ((refine' BQ _ rfl rfl rfl _; rotate_left; (apply B4; exact rfl; exact rfl)))
  refine AW (hemp b1 b3) rfl rfl rdZ rfl rfl ?_;rintro _ rfl;refine Abm ?_;refine Aan ?_;exact BE ⟨rfl,rfl⟩
 ·have e1:totR d K=(d.length:Int):=if_neg hk0
  have e2:datR d K=maskD d K:=if_neg hk0
  rw [e1,e2]
  have hl0:0<K.length:=List.length_pos_iff.2 hk0
  have hl1:=maskD_len d K
  have hx:=List.getElem?_eq_getElem (show 0<K.length by omega)
  have hy:=List.getElem?_eq_getElem (show K.length-1<K.length by omega)
  have hxa:=hK.at _ (List.getElem_mem (show 0<K.length by omega))
  have hya:=hK.at _ (List.getElem_mem (show K.length-1<K.length by omega))
  obtain ⟨b4,o4,rfl,hrd,x0,x1⟩:=spRow hr hx
  obtain ⟨b5,o5,e5,hrd2,y0,y1⟩:=spRow hr hy
  simp only [Option.some.injEq,Addr.mk.injEq,and_true] at e5
  obtain ⟨rfl,rfl⟩:=e5
  generalize K[0]=xf at hrd x0 x1 hxa
  generalize K[K.length-1]=xl at hrd2 y0 y1 hya
  have hemp:=fun b1 b3 x y=>rcvEmpty_spec b1 b3 se (d.length:Int) (.slice (some ⟨b4,o4,none⟩) K.length c) (maskD d K) x y
  generalize hdat:maskD d K=dat at hl1 hemp
  refine spec_in (cap:=[]) Tryz.func19 rfl rfl Tryz.ntmps19 rfl envZ (fun N β=>?_)
  refine Aa ?_;refine BK (BM rfl) rfl rfl rfl ?_;rintro _ _ ⟨b1,rfl,rfl⟩;refine AZ (ρ:=sng b1 _) takeZ ?_
  have cr:=rdB b1 41 [int se,int (d.length:Int),.slice (some ⟨b4,o4,none⟩) K.length c,str dat]
  have cr0:=rdC cr 0
  have cr1:=rdC cr 1
  have cr2:=rdC cr 2
  have cr3:=rdC cr 3
  refine Aaa ?_;refine Aba ?_;refine BN ?_;refine Aap ?_;refine Ac4 ?_;refine DB ?_;refine Aap ?_;refine BN ?_;refine Aap ?_;refine Acu ?_;refine A4 ?_;refine Aa3 ?_;refine Aba ?_;refine AW hc rfl rfl rdZ rfl rfl ?_;rintro _ rfl;refine BJ ?_;refine Aap ?_;refine BF ?_;refine CI ?_;refine Aae ?_;refine CI ?_
  focus ((refine' BQ _ rfl rfl rfl _; rotate_left; (apply E2; exact rfl; exact rfl; exact rfl)))
  refine Aa3 ?_;refine Acz ?_
  refine BD P2Z [] rfl (by kernel_rfl) Sel.nil ?_
  refine Aaj ?_;refine CT ?_;refine EJ ?_;refine Abp ?_;refine CR ?_;refine C4 ?_;refine AS ?_;refine DZ ?_;refine Abp ?_;refine Aaj ?_;refine CT ?_;refine CW ?_;refine CR ?_;refine Ace ?_;refine Aaj ?_;refine DA ?_;refine BU ?_;refine B7 ?_;refine Abx ?_;refine Aba ?_
  focus ((refine' BQ _ rfl rfl rfl _; rotate_left; (apply B4; exact rfl; exact rfl)))
  refine Aae ?_;refine GE ?_;refine Abh ?_;refine Aa ?_;refine CQ ?_; rintro _ _ ⟨b,rfl,rfl⟩;refine BA ?_; rintro _ _ ⟨rfl,rfl⟩;refine Ab3 ?_;refine B0 ?_;refine Aaa ?_;refine Aba ?_;refine Abw ?_
  revert b; intro b3
  refine BX [0,1,3,4,79,80] (X:=Nat × Nat) (0,0) (fun z=>z.1≤K.length∧z.2≤d.length∧(∀ y∈K.take z.1,y.2≤(z.2:Int))∧(∀ y∈K.drop z.1,(z.2:Int)≤y.1)) (fun z=>[(81,int (z.1:Int))]) (fun z=>[sng b3 (.cells #[int (z.2:Int)] 3 (0,0))]) (fun z=>K.length-z.1) pickZ ⟨Nat.zero_le _,Nat.zero_le _,by simp,fun y hy=>(hK.at y (by simpa using hy)).1⟩ covZ selZ ?_
  rintro ⟨k,x⟩ ⟨hk,hxn,hI1,hI2⟩
  dsimp only at hk hxn hI1 hI2 ⊢
  by_cases hlt:k<K.length
  ·have hkx:=List.getElem?_eq_getElem hlt
   have hka:=hK.at _ (List.getElem_mem hlt)
   obtain ⟨b7,o7,e7,hrd7,z0,z1⟩:=spRow hr hkx
   simp only [Option.some.injEq,Addr.mk.injEq,and_true] at e7
   obtain ⟨rfl,rfl⟩:=e7
   have hgm:=gap_mem hK.1 hkx
   have hdk:K.drop k=K[k]::K.drop (k+1):=List.drop_eq_getElem_cons hlt
   have hnd:NormI (K[k]::K.drop (k+1)):=by rw [← hdk]; exact ⟨fun y hy=>hK.1.1 y (List.mem_of_mem_drop hy),hK.1.2.sublist (List.drop_sublist _ _)⟩
   have hix:=hI2 K[k] (by rw [hdk]; exact List.mem_cons_self)
   have htk:K.take (k+1)=K.take k ++ [K[k]]:=by rw [List.take_add_one,hkx]; rfl
   generalize K[k]=y at hkx hka hrd7 z0 z1 hgm hdk hnd hix htk
   obtain ⟨aa,ha⟩:∃ a:Nat,y.1=(a:Int):=⟨y.1.toNat,by omega⟩
   obtain ⟨ee,he⟩:∃ a:Nat,y.2=(a:Int):=⟨y.2.toNat,by omega⟩
   have hz:=maskD_gap (d:=d) (K:=K) (x:=x) (y:=aa) (by omega) (by omega) (fun t h1 h2=>hgm t (fun w hw=>by have:=hI1 w hw; omega) (by omega))
   rw [hdat] at hz
   have hem:=fun b1 b3=>hemp b1 b3 x aa (by omega) (by omega) (by omega) hz
   rw [ha,he] at hrd7;rw [ha] at z0;rw [he] at z1;refine Ac8 ?_;refine A6 ?_; rintro _ _ ⟨b,rfl,rfl⟩;refine AX ?_; rintro _ _ ⟨rfl,rfl⟩;refine Ac1 ?_;refine Aae ?_
   revert b; intro b6
   refine AZ (ρ:=sng b6 _) takeZ ?_
   have bx580_3:=rdB b6 49 [int (aa:Int),int (ee:Int)]
   have m0:=rdC bx580_3 0
   have m1:=rdC bx580_3 1
   skip
   refine AW (hem b1 b3) rfl rfl rdZ rfl rfl ?_;rintro _ rfl;refine Abm ?_;refine AA ?_;refine Aae ?_;refine BA ?_; rintro _ _ ⟨rfl,rfl⟩;refine AE ?_;refine Abc ?_;refine CJ ?_
   refine BH (k+1,ee) ⟨by dsimp only; omega,by dsimp only; omega,fun w hw=>?_,fun w hw=>?_⟩ (by dsimp only; omega) covZ selZ
   ·dsimp only at hw ⊢
    rw [htk] at hw
    rcases List.mem_append.1 hw with hw|hw
    ·have:=hI1 w hw; omega
    ·simp at hw; subst hw; omega
   ·dsimp only at hw ⊢
    have:=hnd.hd.2 w hw
    omega
  ·have hke:k=K.length:=by omega
   subst hke;rw [List.take_length] at hI1
   have hz:=maskD_gap (d:=d) (K:=K) (x:=x) (y:=d.length) (by omega) (Nat.le_refl _) (fun t h1 h2=>by
    cases hm:memI K t with
    | false=>rfl
    | true =>
     obtain ⟨w,hw,g1,g2⟩:=memI_iff.1 hm
     have:=hI1 w hw
     omega)
   rw [hdat] at hz
   have hem:=fun b1 b3=>hemp b1 b3 x d.length (by omega) (by omega) (by omega) hz
   refine Aby ?_;refine Aah ?_;refine Aae ?_
   focus ((refine' BQ _ rfl rfl rfl _; rotate_left; (apply B4; exact rfl; exact rfl)))
   rw [hl1];refine AW (hem b1 b3) rfl rfl rdZ rfl rfl ?_;rintro _ rfl;refine Abm ?_;refine Aan ?_;exact BE ⟨rfl,rfl⟩
end Go.Proofs.YtahbngakckbenaaGreatDoor
namespace Go.Eng
variable {C:Cx} {R H:List PH} {L:Env} {dst:Option Tmp} {ty:TypeId} {pos:String} {aft:Array Edge} {g:Option (Nat × Bool)}
theorem elems_bytes (l:List UInt8):elems (fun b:UInt8=>[Value.int .u8 (b.toNat:Int)]) l=(rowS l).toArray:=by
  unfold elems rowS
  congr 1
  induction l with
  | nil=>rfl
  | cons a l ih=>simp only [List.flatMap_cons,List.map_cons,List.cons_append,List.nil_append,ih]
theorem GX {x y:Operand} {t e:TypeId} {k1 k2:IntKind} {n:Nat} (hx:evalE L x=some (.int k1 (n:Int))) (hy:evalE L y=some (.int k2 (n:Int))) (ht:elemP C.P t=some e) (hs:szP C.P e=some 1) (hz:zeroP C.P e=some (.int .u8 0)) (hb:bytesP C.P e=some 1) (hn:n≤1000000) :
    Loud C R H L ⟨dst,.makeSlice t x y,ty,pos,aft,g⟩ (fun u H2=>∃ b,u=.slice (some ⟨b,0,none⟩) n n∧H2=sng b (.cells (rowS (List.replicate n 0)).toArray e (0,0))::H):=by
  have:=GO (C:=C) (R:=R) (H:=H) (L:=L) (dst:=dst) (ty:=ty) (pos:=pos) (aft:=aft) (g:=g) (enc:=fun b:UInt8=>[Value.int .u8 (b.toNat:Int)]) (0:UInt8) hx hy ht hs hz hb rfl rfl (by omega) (by omega)
  rwa [elems_bytes] at this
theorem cutP_one {b n i:Nat} (h:i<n):cutP (some ⟨b,0,none⟩) n i 1=some ⟨b,i,none⟩:=by
  unfold cutP
  rw [if_neg (by omega)]
  simp [Addr.add_lit]
end Go.Eng
namespace Go.Step
open Go.Eng
theorem cut_cut {d:List UInt8} {a b f t:Nat} (h1:a≤f) (h2:f≤t) (h3:t≤b):((cutD d a b).drop (f-a)).take ((t-a)-(f-a))=(d.drop f).take (t-f):=by
  unfold cutD
  apply List.ext_getElem?
  intro i
  simp only [List.getElem?_take,List.getElem?_drop]
  by_cases h:i<t-f
  · rw [if_pos (by omega),if_pos (by omega),if_pos h]
    congr 1
    omega
  · rw [if_neg (by omega),if_neg h]
theorem datR_le (d:List UInt8) (K:Iv):(datR d K).length=0∧K=[]∨(datR d K).length=d.length∧K≠[]:=by
  unfold datR
  by_cases h:K=[]
  · rw [if_pos h]; exact .inl ⟨rfl,h⟩
  · rw [if_neg h]; exact .inr ⟨maskD_len d K,h⟩
theorem copy_dat (d:List UInt8) (K:Iv) :
    (rowS (List.replicate d.length 0)).take 0 ++ rowS ((datR d K).take (Nat.min (datR d K).length d.length)) ++ (rowS (List.replicate d.length 0)).drop (0+Nat.min (datR d K).length d.length)=rowS (maskD d K):=by
  by_cases h:K=[]
  · subst h
    have e:datR d []=[]:=rfl
    rw [e,maskD_nil]
    simp [rowS]
  · have e:datR d K=maskD d K:=if_neg h
    rw [e,maskD_len]
    have hm:Nat.min d.length d.length=d.length:=Nat.min_self _
    have ht:(maskD d K).take d.length=maskD d K:=List.take_of_length_le (by rw [maskD_len]; exact Nat.le_refl _)
    rw [hm,ht,List.drop_of_length_le (by rw [rowS_len]; simp)]
    simp
theorem copy_piece {d:List UInt8} {K:Iv} {a b:Nat} (hab:a<b) (hb:b≤d.length) :
    (rowS (maskD d K)).take a ++ rowS ((cutD d a b).take (Nat.min (cutD d a b).length (d.length-a))) ++ (rowS (maskD d K)).drop (a+Nat.min (cutD d a b).length (d.length-a))=rowS (maskD d (unionI K [((a:Int),(b:Int))]))∨¬ NormI K:=by
  by_cases hK:NormI K
  rotate_left
  · exact .inr hK
  refine .inl ?_
  have hl:=cutD_len (Nat.le_of_lt hab) hb
  have hm:Nat.min (cutD d a b).length (d.length-a)=b-a:=by rw [hl]; exact Nat.min_eq_left (by omega)
  have ht:(cutD d a b).take (b-a)=cutD d a b:=List.take_of_length_le (by rw [hl]; exact Nat.le_refl _)
  rw [hm,ht,rowS_take,rowS_drop,← rowS_append,← rowS_append]
  congr 1
  rw [show a+(b-a)=b from by omega]
  have h1:NormI [((a:Int),(b:Int))]:=⟨by simp; omega,List.pairwise_singleton _ _⟩
  refine maskD_put (Nat.le_of_lt hab) hb (fun t=>?_)
  obtain ⟨_,k2,_⟩:=combI_ok (f:=fun x y=>x || y) rfl hK h1
  show memI (combI _ _ _) t=_
  rw [k2,mem_one]
theorem unionI_in {n:Int} {A K:Iv} (hA:InI n A) (hK:InI n K):InI n (unionI A K)∧∀ t,memI (unionI A K) t=(memI A t || memI K t):=by
  obtain ⟨k1,k2,_⟩:=combI_ok (f:=fun x y=>x || y) rfl hA.1 hK.1
  refine ⟨⟨k1,fun t ht=>?_⟩,k2⟩
  have:memI (unionI A K) t=(memI A t || memI K t):=k2 t
  rw [this,Bool.or_eq_true] at ht;exact ht.elim (hA.2 t) (hK.2 t)
end Go.Step
namespace Go.Proofs.YtahbngakckbenaaGreatDoor
open Go.Eng Go.Step
set_option maxRecDepth 100000
set_option maxHeartbeats 64000000
theorem snOnes (l:Iv):∀ u∈l.flatMap encS,u.oneCell'=true:=by
 intro u hu
 obtain ⟨x,_,hx⟩:=List.mem_flatMap.1 hu
 simp only [encS,List.mem_cons,List.not_mem_nil,or_false] at hx
 rcases hx with rfl|rfl <;> rfl
theorem cloneSnSp_spec (ρ:PH) (v:Value) (l:List (Int × Int)) (hv:SlE encS 2 ρ v l) (hl:l.length≤1000000) :
  Makes Tryz.prog (fv 43) [v] [ρ] (fun r σ=>OwnS 49 2 r l.length (l.flatMap encS) σ):=by
 have hv2:=hv
 obtain ⟨q,c,rfl,hr⟩:=hv.val encS_len
 refine spec_in (cap:=[]) Tryz.func43 rfl rfl Tryz.ntmps43 rfl envZ (fun N β=>?_)
 cases q with
 | none =>
  have hnil:l=[]:=by
   cases l with
   | nil=>rfl
   | cons a l =>
    obtain ⟨b,o,e,_⟩:=hr 0 a rfl
    simp at e
  subst hnil;refine CB ?_;refine Ab0 ?_
  focus ((refine' BQ _ rfl rfl rfl _; rotate_left; (apply FQ; exact rfl; exact rfl; exact rfl)))
  refine Aal ?_;refine Aan ?_;exact AK (res1 rfl rfl) rsubZ selZ ⟨emp,OwnS.nil _ _,rfl⟩
 | some ad =>
  refine Ab0 ?_
  focus ((refine' BQ _ rfl rfl rfl _; rotate_left; (apply FS; exact rfl; exact rfl; exact rfl)))
  refine Aag ?_;refine Aa ?_;refine BS ?_; rintro _ _ ⟨b,rfl,rfl⟩;refine AB ?_
  refine BK (DE (by_:=16) (s:=2) (σ:=ρ) (news:=l.flatMap encS) (m:=l.length) rfl rfl rfl rfl rfl rfl rfl (OwnS.empty (b:=b)) takeZ hv2 (fun b o h=>cellsR h memZ) (snOnes l) (by simp only [maxLen]; omega) (by omega)) rfl rfl rfl ?_
  rintro r1 _ ⟨σ,hO,rfl⟩;refine Aaa ?_;refine AK (res1 rfl rfl) rsubZ selZ ⟨σ,?_,rfl⟩
  simpa using hO
theorem snOr_spec (x y:Bool):Ans Tryz.prog (fv 147) [.bool x,.bool y] [] (fun r=>r=.bool (x || y)):=by
 refine spec_in (cap:=[]) Tryz.func147 rfl rfl Tryz.ntmps147 rfl envZ (fun N β=>?_)
 cases x <;> cases y
 all_goals
  repeat' (first
   | (refine AB ?_)
   | (refine AC ?_)
   | (refine A4 ?_)
   | (refine AR ?_)
   | (refine AD ?_)
   | (refine AA ?_)
   | (refine AE ?_)
   | (refine AM rfl rfl rfl ?_)
   | fail)
  exact BE ⟨rfl,rfl⟩
theorem snAndN_spec (x y:Bool):Ans Tryz.prog (fv 208) [.bool x,.bool y] [] (fun r=>r=.bool (x && !y)):=by
 refine spec_in (cap:=[]) Tryz.func208 rfl rfl Tryz.ntmps208 rfl envZ (fun N β=>?_)
 cases x <;> cases y
 all_goals
  repeat' (first
   | (refine AB ?_)
   | (refine AC ?_)
   | (refine A4 ?_)
   | (refine AR ?_)
   | (refine BC ?_)
   | (refine AD ?_)
   | (refine AA ?_)
   | (refine AE ?_)
   | (refine AM rfl rfl rfl ?_)
   | fail)
  exact BE ⟨rfl,rfl⟩
theorem snUnion_spec (ρ τ:PH) (va vb:Value) (a b:Iv) (ha:SpAt ρ va a) (hb:SpAt τ vb b) (h0a:chkI a=0) (h0b:chkI b=0) (hlen:a.length+b.length≤1000) :
  Makes Tryz.prog (fv 89) [va,vb] [ρ,τ] (fun r σ=>∃ p c,r=.tuple #[.slice p (combI (fun x y=>x || y) a b).length c,int 0]∧OwnS 49 2 (.slice p (combI (fun x y=>x || y) a b).length c) (combI (fun x y=>x || y) a b).length ((combI (fun x y=>x || y) a b).flatMap encS) σ):=by
 have h:=ivCombine_spec ρ τ va vb 147 a b (fun x y=>x || y) ha hb h0a h0b hlen rfl snOr_spec
 obtain ⟨qa,ca,rfl,_⟩:=ha.val encS_len
 obtain ⟨qb,cb,rfl,_⟩:=hb.val encS_len
 refine spec_in (cap:=[]) Tryz.func89 rfl rfl Tryz.ntmps89 rfl envZ (fun N β=>?_)
 refine Acg ?_;refine Aar ?_;refine B9 h rfl rfl rdZ rfl rfl ?_;rintro _ σ ⟨u,rfl,hO⟩
 obtain ⟨p,c,rfl⟩:=hO.form
 refine Adb ?_;exact AK (res2 rfl rfl rfl) rsubZ selZ ⟨σ,⟨p,c,rfl,hO⟩,rfl⟩
theorem snMinus_spec (ρ τ:PH) (va vb:Value) (a b:Iv) (ha:SpAt ρ va a) (hb:SpAt τ vb b) (h0a:chkI a=0) (h0b:chkI b=0) (hlen:a.length+b.length≤1000) :
  Makes Tryz.prog (fv 184) [va,vb] [ρ,τ] (fun r σ=>∃ p c,r=.tuple #[.slice p (combI (fun x y=>x && !y) a b).length c,int 0]∧OwnS 49 2 (.slice p (combI (fun x y=>x && !y) a b).length c) (combI (fun x y=>x && !y) a b).length ((combI (fun x y=>x && !y) a b).flatMap encS) σ):=by
 have h:=ivCombine_spec ρ τ va vb 208 a b (fun x y=>x && !y) ha hb h0a h0b hlen rfl snAndN_spec
 obtain ⟨qa,ca,rfl,_⟩:=ha.val encS_len
 obtain ⟨qb,cb,rfl,_⟩:=hb.val encS_len
 refine spec_in (cap:=[]) Tryz.func184 rfl rfl Tryz.ntmps184 rfl envZ (fun N β=>?_)
 refine Acg ?_;refine Aar ?_;refine B9 h rfl rfl rdZ rfl rfl ?_;rintro _ σ ⟨u,rfl,hO⟩
 obtain ⟨p,c,rfl⟩:=hO.form
 refine Adb ?_;exact AK (res2 rfl rfl rfl) rsubZ selZ ⟨σ,⟨p,c,rfl,hO⟩,rfl⟩
theorem rcvNew_spec:Ans Tryz.prog (fv 16) [int 0] [] (fun r=>r=.tuple #[.agg #[int 0,int (-1),.slice none 0 0,str []],int 0]):=by
 refine spec_in (cap:=[]) Tryz.func16 rfl rfl Tryz.ntmps16 rfl envZ (fun N β=>?_)
 refine Aa ?_;refine A6 ?_; rintro _ _ ⟨b,rfl,rfl⟩;refine Aa7 ?_;refine BN ?_;refine Aak ?_;refine BP ?_;refine Aa3 ?_;refine Aab ?_;refine B5 ?_;refine AX ?_; rintro _ _ ⟨rfl,rfl⟩;refine Aaa ?_;exact AK (resSE (v1:=[int 0,int (-1),.slice none 0 0,str []]) rfl rfl rfl rfl rfl (cells_own memZ)) rsubZ selZ ⟨rfl,rfl⟩
theorem rcvComplete_spec {ρ:PH} {se:Int} {d:List UInt8} {K:Iv} {p:Option Addr} {c:Nat} (hv:SpAt ρ (.slice p K.length c) K) (hK:InI d.length K) (hn1:1≤d.length) (hn:d.length≤990) (hse:0≤se∧se≤1099511627776):Ans Tryz.prog (fv 20) [.agg #[int se,int (totR d K),.slice p K.length c,str (datR d K)]] [ρ] (fun r=>r=.bool (decide (K=[((0:Int),(d.length:Int))]))):=by
 have hc:=rcvChk_spec hv hK hn1 hn hse
 have hKl:=hK.len (by omega)
 obtain ⟨q,cc,e0,hr⟩:=hv.val encS_len
 simp only [Value.slice.injEq] at e0
 obtain ⟨rfl,_,rfl⟩:=e0
 by_cases h1:K.length=1
 rotate_left
 ·rw [decide_eq_false (fun h=>h1 (by rw [h]; rfl))]
  refine spec_in (cap:=[]) Tryz.func20 rfl rfl Tryz.ntmps20 rfl envZ (fun N β=>?_)
  refine Aa ?_;refine DC ?_; rintro _ _ ⟨b,rfl,rfl⟩;refine Aaa ?_;refine AD ?_
  refine BD (.q 0 (.l 1 .e (.q 2 (.q 3 (.q 4 (.q 5 (.q 6 (.q 7 (.q 8 (.q 9 (.q 10 (.q 11 (.q 12 (.q 13 (.q 14 (.q 15 (.q 16 (.q 17 (.q 18 (.q 19 .nil)))))))))))))))))))) [] rfl (by kernel_rfl) selZ ?_
  refine B8 ?_;refine BL (CS rfl hc rfl rfl rdZ rfl rfl ?_);rintro _ rfl;refine FB ?_;refine Abp ?_;refine CT ?_;refine E3 ?_;refine B7 ?_;refine Acv ?_;refine BU ?_;refine Aam ?_
  skip
  exact BE ⟨rfl,rfl⟩
 obtain ⟨x,rfl⟩:∃ x,K=[x]:=List.length_eq_one_iff.1 h1
 have ht:totR d [x]=(d.length:Int):=rfl
 rw [ht] at hc ⊢
 obtain ⟨b4,o4,rfl,hrd,x0,x1⟩:=spRow hr (i:=0) rfl
 have hcond:decide ([x]=[((0:Int),(d.length:Int))])=decide ([x.1,x.2]=[0,(d.length:Int)]):=by
  rw [decide_eq_decide]
  obtain ⟨x1,x2⟩:=x
  simp
 rw [hcond]
 generalize datR d [x]=dat at hc ⊢
 refine spec_in (cap:=[]) Tryz.func20 rfl rfl Tryz.ntmps20 rfl envZ (fun N β=>?_)
 refine Aa ?_;refine BK (BM rfl) rfl rfl rfl ?_;rintro _ _ ⟨b1,rfl,rfl⟩;refine AZ (ρ:=sng b1 _) takeZ ?_
 have cr:=rdB b1 41 [int se,int (d.length:Int),.slice (some ⟨b4,o4,none⟩) [x].length c,str dat]
 have cr0:=rdC cr 0
 have cr1:=rdC cr 1
 have cr2:=rdC cr 2
 have cr3:=rdC cr 3
 refine Aaa ?_;refine AD ?_
 refine BD (.q 0 (.l 1 .e (.q 2 (.q 3 (.q 4 (.q 5 (.q 6 (.q 7 (.q 8 (.q 9 (.q 10 (.q 11 (.q 12 (.q 13 (.q 14 (.q 15 (.q 16 (.q 17 (.q 18 (.q 19 .nil)))))))))))))))))))) [] rfl (by kernel_rfl) selZ ?_
 refine B8 ?_;refine BL (CS rfl hc rfl rfl rdZ rfl rfl ?_);rintro _ rfl;refine FB ?_;refine Abp ?_;refine CT ?_;refine FB ?_;refine B7 ?_;refine Abp ?_;refine DY ?_;refine B8 ?_;refine Aaj ?_;refine DT ?_
 focus ((refine' CF rfl _ rfl rfl rfl rfl _; rotate_left; (apply q_eqS [x.1,x.2] [0,(d.length:Int)] (n:=2); exact rfl; exact rfl; kernel_rfl; kernel_rfl; kernel_rfl; exact rfl; exact rfl)))
 refine B7 ?_;refine Aam ?_
 skip
 exact BE ⟨rfl,rfl⟩
theorem rcvData_spec {ρ:PH} {se:Int} {d:List UInt8} {K:Iv} {p:Option Addr} {c:Nat} (hv:SpAt ρ (.slice p K.length c) K) (hK:InI d.length K) (hn1:1≤d.length) (hn:d.length≤990) (hse:0≤se∧se≤1099511627776) (hw:K=[((0:Int),(d.length:Int))]):Ans Tryz.prog (fv 9) [.agg #[int se,int (totR d K),.slice p K.length c,str (datR d K)]] [ρ] (fun r=>r=.tuple #[str d,int 0]):=by
 have hc:=rcvChk_spec hv hK hn1 hn hse
 have hco:=rcvComplete_spec hv hK hn1 hn hse
 rw [decide_eq_true hw] at hco
 have hdd:datR d K=d:=by
  rw [hw]
  show maskD d _=d
  exact maskD_all (fun i hi=>by rw [mem_one,decide_eq_true_iff]; omega)
 rw [hdd] at hc hco ⊢
 refine spec_in (cap:=[]) Tryz.func9 rfl rfl Tryz.ntmps9 rfl envZ (fun N β=>?_)
 refine Aa ?_;refine BK (BM rfl) rfl rfl rfl ?_;rintro _ _ ⟨b1,rfl,rfl⟩;refine AZ (ρ:=sng b1 _) takeZ ?_
 have cr:=rdB b1 41 [int se,int (totR d K),.slice p K.length c,str d]
 have cr0:=rdC cr 0
 have cr1:=rdC cr 1
 have cr2:=rdC cr 2
 have cr3:=rdC cr 3
 refine Ac7 ?_;refine AW hc rfl rfl rdZ rfl rfl ?_;rintro _ rfl;refine Abh ?_;refine Ab6 ?_;refine AW hco rfl rfl rdZ rfl rfl ?_;rintro _ rfl;refine Abm ?_;refine Aao ?_;refine Aai ?_;exact AK (res2 rfl rfl rfl) rsubZ selZ ⟨rfl,rfl⟩
end Go.Proofs.YtahbngakckbenaaGreatDoor
namespace Go.Flow
structure Arc where
  f:Int
  t:Int
  c:Int
  deriving DecidableEq,Inhabited
def okArc (n:Int) (a:Arc):Bool:=decide (0≤a.f∧a.f<n∧0≤a.t∧a.t<n∧a.f≠a.t∧0≤a.c∧a.c≤1099511627776)
def chk (n:Int) (l:List Arc):Int:=if n<0 then 2 else if 2000<n∨20000<l.length then 4 else if l.all (okArc n) then 0 else 2
def okEnds (n s t:Int):Bool:=decide (0≤s∧s<n∧0≤t∧t<n∧s≠t)
theorem okArc_iff {n:Int} {a:Arc}:okArc n a=true↔(0≤a.f∧a.f<n∧0≤a.t∧a.t<n∧a.f≠a.t∧0≤a.c∧a.c≤1099511627776):=by unfold okArc; rw [decide_eq_true_eq]
theorem okEnds_iff {n s t:Int}:okEnds n s t=true↔(0≤s∧s<n∧0≤t∧t<n∧s≠t):=by unfold okEnds; rw [decide_eq_true_eq]
theorem chk_ok {n:Int} {l:List Arc} (h:chk n l=0):0≤n∧n≤2000∧l.length≤20000∧∀ a∈l,okArc n a=true:=by
  unfold chk at h
  split at h
  · simp at h
  · split at h
    · simp at h
    · split at h
      · rename_i h3
        rw [List.all_eq_true] at h3
        exact ⟨by omega,by omega,by omega,h3⟩
      · simp at h
def fval (v:Int):List Arc→List Int→Int
  | a::l,x::fl=>((if a.f=v then x else 0)-(if a.t=v then x else 0))+fval v l fl
  | _,_=>0
def inCap:List Arc→List Int→Bool
  | a::l,x::fl=>decide (0≤x∧x≤a.c) && inCap l fl
  | _,_=>true
theorem inCap_get:∀ (l:List Arc) (fl:List Int),inCap l fl=true→∀ (i:Nat) (a:Arc) (x:Int),l[i]?=some a→fl[i]?=some x→0≤x∧x≤a.c
  | [],_,_,i,a,x,h1,_=>by simp at h1
  | _::_,[],_,i,a,x,_,h2=>by simp at h2
  | b::l,y::fl,h,i,a,x,h1,h2=>by
    simp only [inCap,Bool.and_eq_true,decide_eq_true_eq] at h
    cases i with
    | zero=>simp at h1 h2; subst h1; subst h2; exact h.1
    | succ i=>simp at h1 h2; exact inCap_get l fl h.2 i a x h1 h2
def balanced (n:Nat) (l:List Arc) (fl:List Int) (s t:Int):Bool:=(List.range n).all (fun (v:Nat)=>decide ((v:Int)=s∨(v:Int)=t∨fval (v:Int) l fl=0))
def valueSpec (n:Int) (l:List Arc) (fl:List Int) (s t:Int):Int × Int:=
  if chk n l≠0 then (0,chk n l) else if okEnds n s t=false then (0,2) else if fl.length≠l.length then (0,10) else if inCap l fl=false then (0,2)
  else if balanced n.toNat l fl s t=false then (0,24) else (fval s l fl,0)
def capOf (p:Nat→Bool):List Arc→Int
  | []=>0
  | a::l=>(if p a.f.toNat=true∧p a.t.toNat=false then a.c else 0)+capOf p l
end Go.Flow
namespace Go.Flow
def leastR (rm:Nat→Int) (p:List Lk):Int:=p.foldl (fun m x=>min m (rm x.k)) 1099511627776
def rmR (l:List Arc) (fl:List Int) (k:Nat):Int:=if k % 2=0 then (l.getD (k / 2) default).c-fl.getD (k / 2) 0 else fl.getD (k / 2) 0
def rlFrom:Nat→List Arc→List Lk
  | _,[]=>[]
  | i,a::l=>⟨2*i,a.f.toNat,a.t.toNat⟩::⟨2*i+1,a.t.toNat,a.f.toNat⟩::rlFrom (i+1) l
def rlinks (l:List Arc):List Lk:=rlFrom 0 l
theorem rlFrom_mem {n:Nat}:∀ (l:List Arc) (i:Nat),(∀ a∈l,okArc n a=true)→∀ x∈rlFrom i l,x.f<n∧x.t<n∧x.k<2*(i+l.length)
  | [],_,_,x,hx=>by simp [rlFrom] at hx
  | a::l,i,hok,x,hx=>by
    have ha:=okArc_iff.1 (hok a (by simp))
    simp only [rlFrom,List.mem_cons,List.length_cons] at hx ⊢
    rcases hx with rfl|rfl|hx
    · exact ⟨by simp only; omega,by simp only; omega,by simp only; omega⟩
    · exact ⟨by simp only; omega,by simp only; omega,by simp only; omega⟩
    · have:=rlFrom_mem l (i+1) (fun b hb=>hok b (by simp [hb])) x hx
      exact ⟨this.1,this.2.1,by omega⟩
theorem rlinks_mem {n:Nat} {l:List Arc} (hok:∀ a∈l,okArc n a=true) {x:Lk} (hx:x∈rlinks l):x.f<n∧x.t<n∧x.k<2*l.length:=by
  have:=rlFrom_mem l 0 hok x hx
  simpa using this
end Go.Flow
namespace Go.Flow
def opn (ls:List Lk) (rm:Nat→Int) (x:Lk):Prop:=x∈ls∧0<rm x.k
inductive Chn (E:Lk→Prop):Nat→List Lk→Nat→Prop
  | nil {v:Nat}:Chn E v [] v
  | cons {x:Lk} {v:Nat} {p:List Lk} {u:Nat}:x.f=v→E x→Chn E x.t p u→Chn E v (x::p) u
theorem Chn.mono {E E':Lk→Prop} (h:∀ x,E x→E' x) {v u:Nat} {p:List Lk} (hc:Chn E v p u):Chn E' v p u:=by
  induction hc with
  | nil=>exact .nil
  | cons h1 h2 _ ih=>exact .cons h1 (h _ h2) ih
theorem Chn.all {E:Lk→Prop} {v u:Nat} {p:List Lk} (hc:Chn E v p u):∀ x∈p,E x:=by
  induction hc with
  | nil=>simp
  | cons _ h2 _ ih=>intro y hy; simp at hy; rcases hy with rfl|hy; exact h2; exact ih y hy
section
variable {n t:Nat} {ls:List Lk} {rm:Nat→Int} {D:List Int}
theorem nxt_some (hls:∀ x∈ls,x.f<n∧x.t<n) (hD:IsDist n t (opn ls rm) D) {v:Nat} (hv:v<n) (hd:0<D.getD v 0) :
    ∃ x,nxt ls rm D v=some x∧x.f=v∧opn ls rm x∧D.getD x.t 0=D.getD v 0-1:=by
  obtain ⟨y,hy,hyf,hyt⟩:=hD.step v hv hd
  cases e:nxt ls rm D v with
  | none =>
    unfold nxt at e;rw [List.find?_eq_none] at e
    have:=e y hy.1
    exact absurd (by rw [Bool.and_eq_true,Bool.and_eq_true,decide_eq_true_eq,decide_eq_true_eq,near,decide_eq_true_eq]; exact ⟨⟨hy.2,hyf⟩,hyt⟩) this
  | some x =>
    have hm:=List.mem_of_find?_eq_some e
    have hp:=List.find?_some e
    simp only [Bool.and_eq_true,decide_eq_true_eq,near] at hp;exact ⟨x,rfl,hp.1.2,⟨hm,hp.1.1⟩,hp.2⟩
theorem path_chn (hls:∀ x∈ls,x.f<n∧x.t<n) (hD:IsDist n t (opn ls rm) D):∀ (k:Nat) (v:Nat),v<n→D.getD v 0=(k:Int) →
    Chn (fun x=>opn ls rm x∧D.getD x.t 0=D.getD x.f 0-1∧D.getD x.f 0≤k) v (pathD (nxt ls rm D) D v) t:=by
  intro k
  induction k with
  | zero =>
    intro v hv h
    have:=hD.zero v hv h
    subst this
    rw [pathD_end (by omega)]
    exact .nil
  | succ k ih =>
    intro v hv h
    obtain ⟨x,hx,hf,ho,hn⟩:=nxt_some hls hD hv (by omega)
    rw [pathD_step hx (by omega) hn]
    have h2:=ih x.t (hls x ho.1).2 (by rw [hn,h]; omega)
    exact .cons hf ⟨ho,by rw [hf]; exact hn,by rw [hf]; omega⟩ (h2.mono (fun y hy=>⟨hy.1,hy.2.1,by have:=hy.2.2; omega⟩))
theorem path_sorted (hls:∀ x∈ls,x.f<n∧x.t<n) (hD:IsDist n t (opn ls rm) D):∀ (k:Nat) (v:Nat),v<n→D.getD v 0=(k:Int) →
    (pathD (nxt ls rm D) D v).Pairwise (fun x y=>D.getD y.f 0<D.getD x.f 0):=by
  intro k
  induction k with
  | zero =>
    intro v hv h
    rw [pathD_end (by omega)]
    exact List.Pairwise.nil
  | succ k ih =>
    intro v hv h
    obtain ⟨x,hx,hf,ho,hn⟩:=nxt_some hls hD hv (by omega)
    rw [pathD_step hx (by omega) hn]
    have hxt:=(hls x ho.1).2
    refine List.pairwise_cons.2 ⟨fun y hy=>?_,ih x.t hxt (by rw [hn,h]; omega)⟩
    have:=((path_chn hls hD k x.t hxt (by rw [hn,h]; omega)).all y hy).2.2
    rw [hf]; omega
end
/-! ### links of the residual graph -/
theorem fval_set (v:Int):∀ (l:List Arc) (fl:List Int) (i:Nat) (a:Arc) (y:Int),l[i]?=some a→l.length=fl.length →
    fval v l (fl.set i y)=fval v l fl+((if a.f=v then y-fl.getD i 0 else 0)-(if a.t=v then y-fl.getD i 0 else 0))
  | [],_,i,a,y,h,_=>by simp at h
  | b::l,[],i,a,y,_,h=>by simp at h
  | b::l,x::fl,i,a,y,h,hl=>by
    cases i with
    | zero =>
      simp at h; subst h
      simp only [List.set_cons_zero,fval,List.getD_cons_zero]
      split <;> split <;> omega
    | succ i =>
      simp only [List.set_cons_succ,fval,List.getD_cons_succ]
      rw [fval_set v l fl i a y (by simpa using h) (by simpa using hl)]
      omega
theorem inCap_set:∀ (l:List Arc) (fl:List Int) (i:Nat) (a:Arc) (y:Int),l[i]?=some a→inCap l fl=true→0≤y→y≤a.c→inCap l (fl.set i y)=true
  | [],_,i,a,y,h,_,_,_=>by simp at h
  | b::l,[],i,a,y,_,h,_,_=>by simp [inCap]
  | b::l,x::fl,i,a,y,h,hc,h1,h2=>by
    simp only [inCap,Bool.and_eq_true,decide_eq_true_eq] at hc
    cases i with
    | zero =>
      simp at h; subst h
      simp only [List.set_cons_zero,inCap,Bool.and_eq_true,decide_eq_true_eq];exact ⟨⟨h1,h2⟩,hc.2⟩
    | succ i =>
      simp only [List.set_cons_succ,inCap,Bool.and_eq_true,decide_eq_true_eq]
      exact ⟨hc.1,inCap_set l fl i a y (by simpa using h) hc.2 h1 h2⟩
def augR (room:Int) (fl:List Int) (x:Lk):List Int:=fl.set (x.k / 2) (if x.k % 2=0 then fl.getD (x.k / 2) 0+room else fl.getD (x.k / 2) 0-room)
def augAll (room:Int) (fl:List Int) (p:List Lk):List Int:=p.foldl (augR room) fl
theorem getD_set' {l:List Int} {i j:Nat} {x:Int} (h:i≠j):(l.set i x).getD j 0=l.getD j 0:=by
  rw [List.getD_eq_getElem?_getD,List.getElem?_set_ne h,← List.getD_eq_getElem?_getD]
theorem leastR_le (rm:Nat→Int):∀ (p:List Lk) (m:Int),p.foldl (fun m x=>min m (rm x.k)) m≤m∧∀ x∈p,p.foldl (fun m x=>min m (rm x.k)) m≤rm x.k
  | [],m=>by simp
  | y::p,m=>by
    have ih:=leastR_le rm p (min m (rm y.k))
    refine ⟨by simp only [List.foldl_cons]; omega,fun x hx=>?_⟩
    simp only [List.foldl_cons]
    simp at hx
    rcases hx with rfl|hx
    · omega
    · exact ih.2 x hx
theorem leastR_pos (rm:Nat→Int):∀ (p:List Lk) (m:Int),0<m→(∀ x∈p,0<rm x.k)→0<p.foldl (fun m x=>min m (rm x.k)) m
  | [],m,h,_=>by simpa using h
  | y::p,m,h,hp=>by
    simp only [List.foldl_cons]
    exact leastR_pos rm p _ (by have:=hp y (by simp); omega) (fun x hx=>hp x (by simp [hx]))
structure Flw (n:Nat) (l:List Arc) (s t:Nat) (fl:List Int):Prop where
  len:l.length=fl.length
  cap:inCap l fl=true
  bal:∀ v:Nat,v<n→v≠s→v≠t→fval v l fl=0
section
variable {n s t:Nat} {l:List Arc}
theorem rl_lt (hok:∀ a∈l,okArc n a=true):∀ x∈rlinks l,x.f<n∧x.t<n:=fun _ hx=>⟨(rlinks_mem hok hx).1,(rlinks_mem hok hx).2.1⟩
abbrev rE (l:List Arc) (fl:List Int):Lk→Prop:=opn (rlinks l) (rmR l fl)
abbrev rP (l:List Arc) (fl:List Int) (D:List Int) (s:Nat):List Lk:=pathD (nxt (rlinks l) (rmR l fl) D) D s
abbrev rNext (l:List Arc) (fl:List Int) (D:List Int) (s:Nat):List Int:=augAll (leastR (rmR l fl) (rP l fl D s)) fl (rP l fl D s)
end
inductive RunR (n:Nat) (l:List Arc) (s t:Nat):List Int→List Int→Prop
  | done {fl D:List Int}:IsDist n t (rE l fl) D→D.getD s 0<0→RunR n l s t fl fl
  | step {fl D F:List Int}:IsDist n t (rE l fl) D→0≤D.getD s 0→RunR n l s t (rNext l fl D s) F→RunR n l s t fl F
theorem RunR.uniq {n s t:Nat} {l:List Arc} (hok:∀ a∈l,okArc n a=true) {fl F G:List Int} (h1:RunR n l s t fl F) (h2:RunR n l s t fl G):F=G:=by
  have hE:∀ fl x,rE l fl x→x.f<n∧x.t<n:=fun fl x hx=>rl_lt hok x hx.1
  induction h1 generalizing G with
  | done hD hn =>
    cases h2 with
    | done=>rfl
    | step hD2 h0 _=>rw [hD.uniq (hE _) hD2] at hn; omega
  | step hD h0 _ ih =>
    cases h2 with
    | done hD2 hn=>rw [hD.uniq (hE _) hD2] at h0; omega
    | step hD2 _ hr=>rw [hD.uniq (hE _) hD2] at ih; exact ih hr
end Go.Flow
namespace Go.Flow
theorem Chn.take {E:Lk→Prop} {v u:Nat} {p:List Lk} (hc:Chn E v p u):∀ i,∃ w,Chn E v (p.take i) w:=by
  induction hc with
  | nil=>intro i; exact ⟨_,by simpa using Chn.nil⟩
  | cons h1 h2 _ ih =>
    intro i
    cases i with
    | zero=>exact ⟨_,by simpa using Chn.nil⟩
    | succ i=>obtain ⟨w,hw⟩:=ih i; exact ⟨w,.cons h1 h2 hw⟩
end Go.Flow
namespace Go.Flow
def sumTo (g:Nat→Int):Nat→Int
  | 0=>0
  | n+1=>sumTo g n+g n
theorem sumTo_add (g h:Nat→Int):∀ n,sumTo (fun v=>g v+h v) n=sumTo g n+sumTo h n
  | 0=>rfl
  | n+1=>by simp only [sumTo]; rw [sumTo_add g h n]; omega
theorem sumTo_congr {g h:Nat→Int}:∀ n,(∀ v,v<n→g v=h v)→sumTo g n=sumTo h n
  | 0,_=>rfl
  | n+1,e=>by simp only [sumTo]; rw [sumTo_congr n (fun v hv=>e v (by omega)),e n (by omega)]
theorem sumTo_zero {g:Nat→Int}:∀ n,(∀ v,v<n→g v=0)→sumTo g n=0
  | 0,_=>rfl
  | n+1,e=>by simp only [sumTo]; rw [sumTo_zero n (fun v hv=>e v (by omega)),e n (by omega)]; rfl
theorem sumTo_one {g:Nat→Int} {k:Nat}:∀ n,k<n→(∀ v,v<n→v≠k→g v=0)→sumTo g n=g k
  | 0,h,_=>by omega
  | n+1,h,e=>by
    simp only [sumTo]
    by_cases hk:k=n
    · subst hk
      rw [sumTo_zero k (fun v hv=>e v (by omega) (by omega))]; omega
    · rw [sumTo_one n (by omega) (fun v hv hne=>e v (by omega) hne),e n (by omega) (by omega)]; omega
def netB (B:Nat→Bool):List Arc→List Int→Int
  | a::l,x::fl=>((if B a.f.toNat=true then x else 0)-(if B a.t.toNat=true then x else 0))+netB B l fl
  | _,_=>0
theorem netB_eq {n:Nat} (B:Nat→Bool):∀ (l:List Arc) (fl:List Int),(∀ a∈l,okArc n a=true)→sumTo (fun v=>if B v=true then fval v l fl else 0) n=netB B l fl
  | [],fl,_=>by
    rw [sumTo_zero n (fun v _=>by simp [fval])]; rfl
  | a::l,[],_=>by
    rw [sumTo_zero n (fun v _=>by simp [fval])]; rfl
  | a::l,x::fl,h=>by
    obtain ⟨g1,g2,g3,g4,_⟩:=okArc_iff.1 (h a (by simp))
    have ih:=netB_eq B l fl (fun b hb=>h b (by simp [hb]))
    simp only [netB];rw [← ih]
    have e1:sumTo (fun v=>if B v=true then (if a.f=(v:Int) then x else 0) else 0) n=if B a.f.toNat=true then x else 0:=by
      rw [sumTo_one (k:=a.f.toNat) n (by omega) (fun v _ hne=>by rw [if_neg (show ¬ a.f=(v:Int) by omega)]; split <;> rfl)]
      rw [if_pos (show a.f=((a.f.toNat:Nat):Int) by omega)]
    have e2:sumTo (fun v=>if B v=true then (if a.t=(v:Int) then -x else 0) else 0) n=if B a.t.toNat=true then -x else 0:=by
      rw [sumTo_one (k:=a.t.toNat) n (by omega) (fun v _ hne=>by rw [if_neg (show ¬ a.t=(v:Int) by omega)]; split <;> rfl)]
      rw [if_pos (show a.t=((a.t.toNat:Nat):Int) by omega)]
    have e3:sumTo (fun v=>if B v=true then fval v (a::l) (x::fl) else 0) n=sumTo (fun v=>((if B v=true then (if a.f=(v:Int) then x else 0) else 0)+(if B v=true then (if a.t=(v:Int) then -x else 0) else 0))+(if B v=true then fval v l fl else 0)) n:=by
      apply sumTo_congr
      intro v _
      simp only [fval]
      repeat' split
      all_goals omega
    rw [e3,sumTo_add,sumTo_add,e1,e2]
    repeat' split
    all_goals omega
section
variable {n s t:Nat} {l:List Arc} {fl:List Int} {B:Nat→Bool}
end
inductive Rch (E:Lk→Prop) (s:Nat):Nat→Prop
  | refl:Rch E s s
  | step {x:Lk}:Rch E s x.f→E x→Rch E s x.t
theorem Rch.sub {E:Lk→Prop} {s:Nat} {B:Nat→Bool} (hs:B s=true) (hcl:∀ x,E x→B x.f=true→B x.t=true) {v:Nat} (h:Rch E s v):B v=true:=by
  induction h with
  | refl=>exact hs
  | step _ hx ih=>exact hcl _ hx ih
section
variable {n s t:Nat} {l:List Arc} {fl:List Int} {B:Nat→Bool}
def IsReach (n:Nat) (E:Lk→Prop) (s:Nat) (B:Nat→Bool):Prop:=∀ v,v<n→(B v=true↔Rch E s v)
end
end Go.Flow
