/- Texts of this proof, one after the other; no conditions. -/
import Derived.Test.YtekcielcagdcmaaGreatDoorWB9
import Derived.Test.YtekcielcagdcmaaGreatDoorWB2
import Derived.Test.YtekcielcagdcmaaGreatDoorWB4
import Derived.Test.YtekcielcagdcmaaGreatDoorWB5
import Derived.Test.YtekcielcagdcmaaGreatDoorWB3
import Derived.Test.YtekcielcagdcmaaGreatDoorWB1
set_option linter.all false
/- Segments: their rules, checking, how long they take; reports. -/
namespace Go.Proofs.YtekcielcagdcmaaGreatDoor
open Go.Eng Go.Step
set_option maxRecDepth 100000
set_option maxHeartbeats 64000000
theorem segIn_spec {a l h:Int} (h1:l≤a) (h2:a≤h):Ans Tryz.prog (fv 170) [int a,int l,int h] [] (fun r=>r=.bool true):=by
 refine spec_in (cap:=[]) Tryz.func170 rfl rfl Tryz.ntmps170 rfl envZ (fun N β=>?_)
 refine Acu ?_;refine C9 ?_;refine Abq ?_;refine EE ?_;refine Abm ?_;exact A9 ⟨rfl,rfl⟩
theorem segInside_spec (ρ:PH) (v:Value) (l:Iv) (n:Nat) (hv:SpAt ρ v l) (hk:InI n l) (hn:n≤1999):Ans Tryz.prog (fv 171) [v,int (n:Int)] [ρ] (fun r=>r=.bool true):=by
 have hc:=ivCheck_spec ρ v l hv (by have:=hk.len (by omega); omega)
 have hl:=hk.len (by omega)
 rw [hk.chk (by omega) (by omega)] at hc
 obtain ⟨q,c,rfl,hr⟩:=hv.val encS_len
 refine spec_in (cap:=[]) Tryz.func171 rfl rfl Tryz.ntmps171 rfl envZ (fun N β=>?_)
 refine Ac0 ?_;refine AT hc rfl rfl rdZ rfl rfl ?_;rintro _ rfl
 by_cases h0:l.length=0
 ·refine CN ?_
  refine Aao ?_;refine BD ?_;refine CN ?_;refine Adj ?_;refine Aac ?_;refine Aac ?_;refine Aac ?_;refine Aac ?_;refine Aac ?_;refine AV ?_;refine Abm ?_;exact A9 ⟨rfl,rfl⟩
 have hx:=List.getElem?_eq_getElem (show 0<l.length by omega)
 have hy:=List.getElem?_eq_getElem (show l.length-1<l.length by omega)
 have hxa:=hk.at _ (List.getElem_mem (show 0<l.length by omega))
 have hya:=hk.at _ (List.getElem_mem (show l.length-1<l.length by omega))
 obtain ⟨b4,o4,rfl,hrd,g0,g1⟩:=spRow hr hx
 obtain ⟨b5,o5,e5,hrd2,f0,f1⟩:=spRow hr hy
 simp only [Option.some.injEq,Addr.mk.injEq,and_true] at e5
 obtain ⟨rfl,rfl⟩:=e5
 generalize l[0]=x at hrd g0 g1 hxa
 generalize l[l.length-1]=y at hrd2 f0 f1 hya
 refine CN ?_;refine Aao ?_;refine BD ?_;refine B9 ?_;refine Aao ?_;refine DX ?_;refine Ac8 ?_;refine C9 ?_;refine Abq ?_;refine BD ?_;refine CK ?_;refine CA ?_;refine DQ ?_;refine AF ?_;refine AB ?_;refine EE ?_;refine AV ?_;refine AP ?_;refine Abm ?_;exact A9 ⟨rfl,rfl⟩
theorem segRules_spec:Ans Tryz.prog (fv 225) [] [] (fun r=>r=.agg #[.nilFunc,.nilFunc,fv 258,fv 259,fv 260,fv 261,fv 262,fv 263]):=by
 refine spec_in (cap:=[]) Tryz.func225 rfl rfl Tryz.ntmps225 rfl envZ (fun N β=>?_)
 refine Aa ?_;refine A4 ?_; rintro _ _ ⟨b,rfl,rfl⟩;refine Acm ?_;refine B6 ?_;refine B6 ?_;refine B6 ?_
 focus ((refine BT (DY (out:=[.nilFunc,.nilFunc,fv 258,fv 259,fv 260,fv 261,fv 262,fv 263]) rfl rfl rfl rfl rfl) rfl rfl rfl ?_))
 refine AY ?_; rintro _ _ ⟨rfl,rfl⟩;refine AE ?_;exact AK (resS1 (v1:=[.nilFunc,.nilFunc,fv 258,fv 259,fv 260,fv 261,fv 262,fv 263]) rfl rfl rfl rfl (cells_own memZ)) rsubZ selZ ⟨rfl,rfl⟩
theorem segRule1_spec {se:Int} {d:List UInt8} {x:Sg} (hx:okG d.length x) (hn:d.length≤1999):Ans Tryz.prog (fv 258) [.agg #[int 1,int se,int x.sr,int (x.a:Int),int (d.length:Int),.bool (decide (1≤x.sr)),str (cutD d x.a x.b),.slice none 0 0]] [] (fun r=>r=.bool true):=by
 obtain ⟨h1,h2,h3,h4,h5⟩:=hx
 refine spec_in (cap:=[]) Tryz.func258 rfl rfl Tryz.ntmps258 rfl envZ (fun N β=>?_)
 by_cases hs:1≤x.sr
 ·rw [decide_eq_true hs]
  refine Aa ?_;refine BJ (BL rfl) rfl rfl rfl ?_;rintro _ _ ⟨b1,rfl,rfl⟩;refine AS (ρ:=sng b1 _) takeZ ?_
  have cs:=rdB b1 54 [int 1,int se,int x.sr,int (x.a:Int),int (d.length:Int),.bool true,str (cutD d x.a x.b),.slice none 0 0]
  have cs0:=rdC cs 0
  have cs1:=rdC cs 1
  have cs2:=rdC cs 2
  have cs3:=rdC cs 3
  have cs4:=rdC cs 4
  have cs5:=rdC cs 5
  have cs6:=rdC cs 6
  have cs7:=rdC cs 7
  refine Abu ?_
  focus ((refine AT (segIn_spec (by omega) (by omega)) rfl rfl rdZ rfl rfl ?_; rintro _ rfl))
  refine Ab3 ?_;refine CK ?_
  focus ((refine AT (segIn_spec (by omega) (by omega)) rfl rfl rdZ rfl rfl ?_; rintro _ rfl))
  refine AV ?_;refine Aak ?_;refine C9 ?_;refine Aad ?_;refine E0 ?_;refine Abm ?_;exact A9 ⟨rfl,rfl⟩
 ·rw [decide_eq_false hs]
  refine Aa ?_;refine BJ (BL rfl) rfl rfl rfl ?_;rintro _ _ ⟨b1,rfl,rfl⟩;refine AS (ρ:=sng b1 _) takeZ ?_
  have cs:=rdB b1 54 [int 1,int se,int x.sr,int (x.a:Int),int (d.length:Int),.bool false,str (cutD d x.a x.b),.slice none 0 0]
  have cs0:=rdC cs 0
  have cs1:=rdC cs 1
  have cs2:=rdC cs 2
  have cs3:=rdC cs 3
  have cs4:=rdC cs 4
  have cs5:=rdC cs 5
  have cs6:=rdC cs 6
  have cs7:=rdC cs 7
  refine Abu ?_
  focus ((refine AT (segIn_spec (by omega) (by omega)) rfl rfl rdZ rfl rfl ?_; rintro _ rfl))
  refine Ab3 ?_;refine CK ?_
  focus ((refine AT (segIn_spec (by omega) (by omega)) rfl rfl rdZ rfl rfl ?_; rintro _ rfl))
  refine AV ?_;refine Aak ?_;refine CP ?_;refine Aad ?_;refine E0 ?_;refine Abm ?_;exact A9 ⟨rfl,rfl⟩
theorem segRule2_spec {se:Int} {d:List UInt8} {x:Sg} (hx:okG d.length x) (hn:d.length≤1999):Ans Tryz.prog (fv 259) [.agg #[int 1,int se,int x.sr,int (x.a:Int),int (d.length:Int),.bool (decide (1≤x.sr)),str (cutD d x.a x.b),.slice none 0 0]] [] (fun r=>r=.bool true):=by
 obtain ⟨h1,h2,h3,h4,h5⟩:=hx
 have hl:=cutD_len (Nat.le_of_lt h1) h2
 refine spec_in (cap:=[]) Tryz.func259 rfl rfl Tryz.ntmps259 rfl envZ (fun N β=>?_)
 refine Aa ?_;refine BJ (BL rfl) rfl rfl rfl ?_;rintro _ _ ⟨b1,rfl,rfl⟩;refine AS (ρ:=sng b1 _) takeZ ?_
 have cs:=rdB b1 54 [int 1,int se,int x.sr,int (x.a:Int),int (d.length:Int),.bool (decide (1≤x.sr)),str (cutD d x.a x.b),.slice none 0 0]
 have cs0:=rdC cs 0
 have cs1:=rdC cs 1
 have cs2:=rdC cs 2
 have cs3:=rdC cs 3
 have cs4:=rdC cs 4
 have cs5:=rdC cs 5
 have cs6:=rdC cs 6
 have cs7:=rdC cs 7
 refine Abu ?_
 focus ((refine' BT _ rfl rfl rfl _; rotate_left; (apply B0; exact rfl; exact rfl)))
 refine Aad ?_;refine Aad ?_;refine DM ?_;refine FJ ?_
 focus ((refine AT (segIn_spec (by omega) (by omega)) rfl rfl rdZ rfl rfl ?_; rintro _ rfl))
 refine Aak ?_;refine BD ?_;refine CN ?_;refine Abm ?_;exact A9 ⟨rfl,rfl⟩
theorem segRule3_spec {se sr:Int} {n:Nat} {p:Option Addr} {K:Iv} {c:Nat} (h1:1≤sr) (h2:1≤n) (h3:n≤1999):Ans Tryz.prog (fv 260) [.agg #[int 2,int se,int sr,int 0,int (n:Int),.bool false,str [],.slice p K.length c]] [] (fun r=>r=.bool true):=by
 refine spec_in (cap:=[]) Tryz.func260 rfl rfl Tryz.ntmps260 rfl envZ (fun N β=>?_)
 refine Aa ?_;refine BJ (BL rfl) rfl rfl rfl ?_;rintro _ _ ⟨b1,rfl,rfl⟩;refine AS (ρ:=sng b1 _) takeZ ?_
 have cs:=rdB b1 54 [int 2,int se,int sr,int 0,int (n:Int),.bool false,str [],.slice p K.length c]
 have cs0:=rdC cs 0
 have cs1:=rdC cs 1
 have cs2:=rdC cs 2
 have cs3:=rdC cs 3
 have cs4:=rdC cs 4
 have cs5:=rdC cs 5
 have cs6:=rdC cs 6
 have cs7:=rdC cs 7
 refine Abu ?_;refine C9 ?_;refine Aak ?_
 focus ((refine AT (segIn_spec (by omega) (by omega)) rfl rfl rdZ rfl rfl ?_; rintro _ rfl))
 refine AV ?_;refine Aak ?_;refine CN ?_;refine Abm ?_;exact A9 ⟨rfl,rfl⟩
theorem segRule4_spec {ρ:PH} {se sr:Int} {n:Nat} {p:Option Addr} {K:Iv} {c:Nat} (hv:SpAt ρ (.slice p K.length c) K) (hk:InI n K) (hn:n≤1999):Ans Tryz.prog (fv 261) [.agg #[int 2,int se,int sr,int 0,int (n:Int),.bool false,str [],.slice p K.length c]] [ρ] (fun r=>r=.bool true):=by
 have hi:=segInside_spec ρ _ K n hv hk hn
 have hl:=hk.len (by omega)
 refine spec_in (cap:=[]) Tryz.func261 rfl rfl Tryz.ntmps261 rfl envZ (fun N β=>?_)
 refine Aa ?_;refine BJ (BL rfl) rfl rfl rfl ?_;rintro _ _ ⟨b1,rfl,rfl⟩;refine AS (ρ:=sng b1 _) takeZ ?_
 have cs:=rdB b1 54 [int 2,int se,int sr,int 0,int (n:Int),.bool false,str [],.slice p K.length c]
 have cs0:=rdC cs 0
 have cs1:=rdC cs 1
 have cs2:=rdC cs 2
 have cs3:=rdC cs 3
 have cs4:=rdC cs 4
 have cs5:=rdC cs 5
 have cs6:=rdC cs 6
 have cs7:=rdC cs 7
 refine Abu ?_;refine BE ?_;refine Aak ?_
 focus ((refine' BT _ rfl rfl rfl _; rotate_left; (apply E8; exact rfl; exact rfl)))
 refine AV ?_;refine Aak ?_;refine BD ?_;refine EE ?_;refine AV ?_;refine Ab3 ?_;refine AT hi rfl rfl rdZ rfl rfl ?_;rintro _ rfl;refine Abm ?_;exact A9 ⟨rfl,rfl⟩
theorem segChk_spec {se:Int} {d:List UInt8} {x:Sg} (hx:okG d.length x) (hn:d.length≤1999) (hse:0≤se∧se≤1099511627776):Ans Tryz.prog (fv 202) [.agg #[int 1,int se,int x.sr,int (x.a:Int),int (d.length:Int),.bool (decide (1≤x.sr)),str (cutD d x.a x.b),.slice none 0 0]] [] (fun r=>r=int 0):=by
 have hr1:=segRule1_spec (se:=se) hx hn
 have hr2:=segRule2_spec (se:=se) hx hn
 obtain ⟨h1,h2,h3,h4,h5⟩:=hx
 obtain ⟨h6,h7⟩:=hse
 generalize decide (1≤x.sr)=ck at hr1 hr2 ⊢
 refine spec_in (cap:=[]) Tryz.func202 rfl rfl Tryz.ntmps202 rfl envZ (fun N β=>?_)
 refine Aa ?_;refine BJ (BL rfl) rfl rfl rfl ?_;rintro _ _ ⟨b1,rfl,rfl⟩;refine AS (ρ:=sng b1 _) takeZ ?_
 have cs:=rdB b1 54 [int 1,int se,int x.sr,int (x.a:Int),int (d.length:Int),.bool ck,str (cutD d x.a x.b),.slice none 0 0]
 have cs0:=rdC cs 0
 have cs1:=rdC cs 1
 have cs2:=rdC cs 2
 have cs3:=rdC cs 3
 have cs4:=rdC cs 4
 have cs5:=rdC cs 5
 have cs6:=rdC cs 6
 have cs7:=rdC cs 7
 refine Adr ?_
 focus ((refine AT (segIn_spec (by omega) (by omega)) rfl rfl rdZ rfl rfl ?_; rintro _ rfl))
 refine Abr ?_;refine Aa ?_;refine AT segRules_spec rfl rfl rdZ rfl rfl ?_;rintro _ rfl;refine A4 ?_; rintro _ _ ⟨b,rfl,rfl⟩;refine AY ?_; rintro _ _ ⟨rfl,rfl⟩;refine Ac4 ?_
 revert b; intro b3
 refine AS (ρ:=sng b3 _) takeZ ?_
 have gr:RdP (sng b3 (.cells #[.nilFunc,.nilFunc,fv 258,fv 259,fv 260,fv 261,fv 262,fv 263] 345 (0,0))) b3 2 [fv 258,fv 259]:=rdP_sng (xs:=[.nilFunc,.nilFunc,fv 258,fv 259,fv 260,fv 261,fv 262,fv 263]) rfl
 focus ((refine BT (CS (i:=1) (m:=2) rfl rfl rfl rfl (by decide) rfl) rfl rfl rfl ?_))
 refine AQ ?_;refine A4 ?_; rintro _ _ ⟨b,rfl,rfl⟩;refine AY ?_; rintro _ _ ⟨rfl,rfl⟩;refine Acb ?_
 revert b; intro b4
 focus ((refine AT (segIn_spec (by omega) (by omega)) rfl rfl rdZ rfl rfl ?_; rintro _ rfl))
 refine BE ?_;refine Aak ?_
 focus ((refine AT (segIn_spec (by omega) (by omega)) rfl rfl rdZ rfl rfl ?_; rintro _ rfl))
 refine BE ?_;refine Aa5 ?_;refine AQ ?_;refine AT hr1 rfl rfl rdZ rfl rfl ?_;rintro _ rfl;refine BE ?_;refine Aa4 ?_;refine Abg ?_;refine AQ ?_;refine AT hr2 rfl rfl rdZ rfl rfl ?_;rintro _ rfl;refine Abr ?_;refine Aal ?_;exact A9 ⟨rfl,rfl⟩
theorem segChkR_spec {ρ:PH} {se sr:Int} {n:Nat} {p:Option Addr} {K:Iv} {c:Nat} (hv:SpAt ρ (.slice p K.length c) K) (hk:InI n K) (h2:1≤n) (hn:n≤1999) (h1:1≤sr) (h3:sr≤1099511627776) (hse:0≤se∧se≤1099511627776):Ans Tryz.prog (fv 202) [.agg #[int 2,int se,int sr,int 0,int (n:Int),.bool false,str [],.slice p K.length c]] [ρ] (fun r=>r=int 0):=by
 have hr1:=segRule3_spec (se:=se) (p:=p) (K:=K) (c:=c) h1 h2 hn
 have hr2:=segRule4_spec (se:=se) (sr:=sr) hv hk hn
 obtain ⟨h6,h7⟩:=hse
 refine spec_in (cap:=[]) Tryz.func202 rfl rfl Tryz.ntmps202 rfl envZ (fun N β=>?_)
 refine Aa ?_;refine BJ (BL rfl) rfl rfl rfl ?_;rintro _ _ ⟨b1,rfl,rfl⟩;refine AS (ρ:=sng b1 _) takeZ ?_
 have cs:=rdB b1 54 [int 2,int se,int sr,int 0,int (n:Int),.bool false,str [],.slice p K.length c]
 have cs0:=rdC cs 0
 have cs1:=rdC cs 1
 have cs2:=rdC cs 2
 have cs3:=rdC cs 3
 have cs4:=rdC cs 4
 have cs5:=rdC cs 5
 have cs6:=rdC cs 6
 have cs7:=rdC cs 7
 refine Adr ?_
 focus ((refine AT (segIn_spec (by omega) (by omega)) rfl rfl rdZ rfl rfl ?_; rintro _ rfl))
 refine Abr ?_;refine Aa ?_;refine AT segRules_spec rfl rfl rdZ rfl rfl ?_;rintro _ rfl;refine A4 ?_; rintro _ _ ⟨b,rfl,rfl⟩;refine AY ?_; rintro _ _ ⟨rfl,rfl⟩;refine Ac4 ?_
 revert b; intro b3
 refine AS (ρ:=sng b3 _) takeZ ?_
 have gr:RdP (sng b3 (.cells #[.nilFunc,.nilFunc,fv 258,fv 259,fv 260,fv 261,fv 262,fv 263] 345 (0,0))) b3 4 [fv 260,fv 261]:=rdP_sng (xs:=[.nilFunc,.nilFunc,fv 258,fv 259,fv 260,fv 261,fv 262,fv 263]) rfl
 focus ((refine BT (CS (i:=2) (m:=4) rfl rfl rfl rfl (by decide) rfl) rfl rfl rfl ?_))
 refine AQ ?_;refine A4 ?_; rintro _ _ ⟨b,rfl,rfl⟩;refine AY ?_; rintro _ _ ⟨rfl,rfl⟩;refine Acb ?_
 revert b; intro b4
 focus ((refine AT (segIn_spec (by omega) (by omega)) rfl rfl rdZ rfl rfl ?_; rintro _ rfl))
 refine BE ?_;refine Aak ?_
 focus ((refine AT (segIn_spec (by omega) (by omega)) rfl rfl rdZ rfl rfl ?_; rintro _ rfl))
 refine BE ?_;refine Aa5 ?_;refine AQ ?_;refine AT hr1 rfl rfl rdZ rfl rfl ?_;rintro _ rfl;refine BE ?_;refine Aa4 ?_;refine Abg ?_;refine AQ ?_;refine AT hr2 rfl rfl rdZ rfl rfl ?_;rintro _ rfl;refine Abr ?_;refine Aal ?_;exact A9 ⟨rfl,rfl⟩
theorem segTime_spec {rate se:Int} {d:List UInt8} {x:Sg} (hx:okG d.length x) (hn:d.length≤1999) (hse:0≤se∧se≤1099511627776) (hr:1≤rate∧rate≤1000):Ans Tryz.prog (fv 169) [int rate,.agg #[int 1,int se,int x.sr,int (x.a:Int),int (d.length:Int),.bool (decide (1≤x.sr)),str (cutD d x.a x.b),.slice none 0 0]] [] (fun r=>r=.tuple #[int (segT rate ((x.b-x.a:Nat):Int)),int 0]):=by
 have hc:=segChk_spec hx hn hse
 obtain ⟨h1,h2,h3,h4,h5⟩:=hx
 have hl:=cutD_len (Nat.le_of_lt h1) h2
 obtain ⟨h6,h7⟩:=hr
 have hq:=segT_le h6 (len:=((x.b-x.a:Nat):Int)) (by omega)
 have hp:=segT_pos h6 (len:=((x.b-x.a:Nat):Int)) (by omega)
 unfold segT at hq hp ⊢;rw [← hl] at hq hp ⊢
 refine spec_in (cap:=[]) Tryz.func169 rfl rfl Tryz.ntmps169 rfl envZ (fun N β=>?_)
 refine Aa ?_;refine BJ (BL rfl) rfl rfl rfl ?_;rintro _ _ ⟨b3,rfl,rfl⟩;refine AS (ρ:=sng b3 _) takeZ ?_
 have cs:=rdB b3 54 [int 1,int se,int x.sr,int (x.a:Int),int (d.length:Int),.bool (decide (1≤x.sr)),str (cutD d x.a x.b),.slice none 0 0]
 have cs0:=rdC cs 0
 have cs1:=rdC cs 1
 have cs2:=rdC cs 2
 have cs3:=rdC cs 3
 have cs4:=rdC cs 4
 have cs5:=rdC cs 5
 have cs6:=rdC cs 6
 have cs7:=rdC cs 7
 refine Ac6 ?_;refine AT hc rfl rfl rdZ rfl rfl ?_;rintro _ rfl;refine Add ?_
 focus ((refine AT (segIn_spec (by omega) (by omega)) rfl rfl rdZ rfl rfl ?_; rintro _ rfl))
 refine Abr ?_;refine Abg ?_;refine Aba ?_;refine Aam ?_
 focus ((refine' BT _ rfl rfl rfl _; rotate_left; (apply B0; exact rfl; exact rfl)))
 refine CD ?_;refine AB ?_;refine CD ?_;refine DM ?_;refine AB ?_;refine F5 ?_;refine Aaj ?_;exact AK (res2 rfl rfl rfl) rsubZ selZ ⟨rfl,rfl⟩
theorem segClaim_spec {ρ:PH} {se sr:Int} {n:Nat} {p:Option Addr} {K:Iv} {c:Nat} (hv:SpAt ρ (.slice p K.length c) K) (hk:InI n K) (h2:1≤n) (hn:n≤1999) (h1:1≤sr) (h3:sr≤1099511627776) (hse:0≤se∧se≤1099511627776):Ans Tryz.prog (fv 212) [int se,int sr,int (n:Int),.slice p K.length c] [ρ] (fun r=>r=.tuple #[.agg #[int 2,int se,int sr,int 0,int (n:Int),.bool false,str [],.slice p K.length c],int 0]):=by
 have hc:=segChkR_spec hv hk h2 hn h1 h3 hse
 refine spec_in (cap:=[]) Tryz.func212 rfl rfl Tryz.ntmps212 rfl envZ (fun N β=>?_)
 refine Aa ?_;refine A4 ?_; rintro _ _ ⟨b,rfl,rfl⟩;refine Abv ?_;refine Abq ?_;refine B6 ?_;refine A4 ?_; rintro _ _ ⟨b,rfl,rfl⟩;refine AY ?_; rintro _ _ ⟨rfl,rfl⟩;refine Aap ?_;refine Aau ?_;refine AT hc rfl rfl rdZ rfl rfl ?_;rintro _ rfl;refine Abv ?_;refine Aba ?_;refine Aau ?_;refine AY ?_; rintro _ _ ⟨rfl,rfl⟩;refine Aaa ?_;exact AK (resSE (v1:=[int 2,int se,int sr,int 0,int (n:Int),.bool false,str [],.slice p K.length c]) rfl rfl rfl rfl rfl (cells_own memZ)) rsubZ selZ ⟨rfl,rfl⟩
end Go.Proofs.YtekcielcagdcmaaGreatDoor
namespace Go.Eng
variable {C:Cx} {D:List Deferred} {R H Hf:List PH} {L:Env} {K:List It} {ps ls:List Nat}
theorem Quiet.perm {H':List PH} {o:Oper} {v:Value} (hp:H'.Perm H) (h:Quiet C R H L o v):Quiet C R H' L o v:=⟨h.1,fun a w hx hs=>h.2 a w hx (hs.perm hp)⟩
theorem ES {H':List PH} {all:Array Oper} {done:List Nat} {plan:Pl} (hp:H.Perm H') (h:DJ C D R Hf H' L all done ps ls plan K):DJ C D R Hf H L all done ps ls plan K:=by
  refine ⟨fun hpl fuel listed a w hinv=>h.run hpl fuel listed a w ⟨hinv.size,hinv.dc,hinv.sub,hinv.fuel,hinv.tm,hinv.df,hinv.sat.perm hp,hinv.get,fun i hi hn=>?_,fun w hw=>hinv.hf w (hw.perm hp.symm),hinv.lds,hinv.data,hinv.uniq,hinv.chron⟩⟩
  obtain ⟨o,d,v,h1,h2,h3,h4,h5⟩:=hinv.prom i hi hn
  refine ⟨o,d,v,h1,h2,h3,h4,?_⟩
  rcases h5 with ⟨k1,k2⟩|k
  · refine .inl ⟨k1,?_⟩
    split at k2
    · rename_i c; rw [if_pos c]; exact k2
    · rename_i c; rw [if_neg c]; exact k2.perm hp.symm
  · exact .inr k
end Go.Eng
namespace Go.Eng
variable {C:Cx} {D:List Deferred} {R H:List PH} {L:Env} {K:List It}
end Go.Eng
namespace Go.Eng
variable {C:Cx} {D:List Deferred} {R H:List PH} {L:Env} {K:List It}
theorem CR {σ:PH} (h:JK C D R H L K):JK C D (σ::R) H L K:=
  ⟨fun a w hf hd hs=>h.run a w hf hd ⟨hs.sz,fun ρ hρ=>hs.r ρ (List.mem_cons_of_mem _ hρ),hs.h,hs.hd,fun ρ hρ=>hs.rd ρ (List.mem_cons_of_mem _ hρ)⟩⟩
theorem OwnS.formC {e:TypeId} {s n:Nat} {v:Value} {xs:List Value} {ρ:PH} (h:OwnS e s v n xs ρ):∃ p c,v=.slice p n c∧n≤c:=by
  obtain ⟨_,⟨rfl,rfl,_⟩|⟨b,cap,cur,rfl,_,h1,_⟩⟩:=h
  · exact ⟨none,0,rfl,Nat.le_refl _⟩
  · exact ⟨_,cap,rfl,h1⟩
theorem Sat.left_out {N:Bs} {w:World}:∀ {H':List PH},Sat N R (H' ++ H) w→Sat N R H w:=fun {H'} h =>
  ⟨h.sz,h.r,fun ρ hρ=>h.h ρ (List.mem_append.2 (.inr hρ)),(List.pairwise_append.1 h.hd).2.1,fun ρ hρ σ hσ=>h.rd ρ hρ σ (List.mem_append.2 (.inr hσ))⟩
theorem DN {Hf R1:List PH} {ps ls done:List Nat} {i d:Nat} {plan:Pl} {all:Array Oper} {f:Value} {vs:List Value} {x:Operand} {xs:Array Operand} {ts:Array TypeId} {ty:TypeId} {pos:String} {aft:Array Edge} {g:Option (Nat × Bool)} {post:Value→List PH→Prop} (ho:all[i]?=some ⟨some d,.call ⟨.value x,xs,ts⟩,ty,pos,aft,g⟩) (hs:Spec C.P f vs R1 [] post) (hf:evalE L x=some f) (ha:evalEs L xs.toList=some vs) (hr:RdOK R1 R H) (hg:wantE all L ⟨some d,.call ⟨.value x,xs,ts⟩,ty,pos,aft,g⟩=some true) (hM:Nat.blt d C.M=true)
    (h:∀ v H',post v H'→DJ C D R Hf (H' ++ H) ((d,v)::L) all (i::done) ps (i::ls) plan K):ActOK C D R Hf H L all done ps ls i .e plan K:=
  a_e ho (loud_call hs hf ha Takes.nil hr) hg rfl hM (fun v H' ⟨H1',e,hp⟩ w hw=>by subst e; exact hw.left_out) (fun v H' ⟨H1',e,hp⟩=>by subst e; exact h v H1' hp)
end Go.Eng
namespace Go.Proofs.YtekcielcagdcmaaGreatDoor
open Go.Eng Go.Step
set_option maxRecDepth 100000
set_option maxHeartbeats 64000000
theorem segPieces_spec (v:Value) (hv:v.oneCell'=true) :
  Eng.Spec Tryz.prog (fv 172) [v] [] [] (fun r H'=>∃ b1,r=.func (.func 203) #[] #[.pointer (some ⟨b1,0,none⟩)]∧H'=[sng b1 (.cells #[v] 25 (0,0))]):=by
 refine spec_in (cap:=[]) Tryz.func172 rfl rfl Tryz.ntmps172 rfl envZ (fun N β=>?_)
 refine Aa ?_;refine BJ (DZ rfl hv) rfl rfl rfl ?_;rintro _ _ ⟨b1,rfl,rfl⟩;refine Ach ?_;refine BZ ?_;refine Aaa ?_;exact AK (res1 rfl rfl) rsubZ selZ ⟨b1,rfl,rfl⟩
theorem segPieces_iter {ρ:PH} {v:Value} {M:Iv} {n:Nat} (hv:SpAt ρ v M) (hM:InI n M) (hn:n≤1999) (b1:Nat) :
  Iter Tryz.prog (.func (.func 203) #[] #[.pointer (some ⟨b1,0,none⟩)]) [sng b1 (.cells #[v] 25 (0,0)),ρ] ((pcsAll M).map (fun x=>[.agg #[int x.1,int x.2]])):=by
 intro y S Own Inv Stop Ry hy hyl σ0 hI0
 obtain ⟨yl,rfl⟩:=hyl
 have hlen:=hM.len (by omega)
 obtain ⟨q,c,rfl,hr⟩:=hv.val encS_len
 have bx37_3:=rdB b1 25 [.slice q M.length c]
 have c1:=rdC bx37_3 0
 simp only [List.cons_append,List.nil_append]
 refine spec_in (cap:=[.pointer (some ⟨b1,0,none⟩)]) Tryz.func203 rfl rfl Tryz.ntmps203 rfl envZ (fun N β=>?_)
 refine Ac ?_;refine Aby ?_
 refine BU [0,1,7,8] (X:=Nat × S) (0,σ0) (fun z=>z.1≤M.length∧Inv (pcsAll (M.take z.1)).length z.2) (fun z=>[(9,int (z.1:Int))]) (fun z=>Own z.2) (fun z=>M.length-z.1) pickZ ⟨Nat.zero_le _,hI0⟩ covZ Sel.refl ?_
 rintro ⟨k,σ1⟩ ⟨hk,hI⟩
 dsimp only at hk hI ⊢
 by_cases hlt:k<M.length
 rotate_left
 ·have hke:k=M.length:=by omega
  subst hke;rw [List.take_length] at hI;refine Ab5 ?_
  refine BV (res0 rfl) (fun _ h=>h) Sel.refl ⟨σ1,rfl,.inl ?_⟩
  rw [List.length_map];exact hI
 have hx:=List.getElem?_eq_getElem hlt
 have hxa:=hM.at _ (List.getElem_mem hlt)
 obtain ⟨bl,ol,rfl,hrd,x0,x1⟩:=spRow hr hx
 generalize M[k]=x at hx hxa hrd x0 x1
 have hsc:=pcsAll_succ hx
 refine Ade ?_;refine A4 ?_; rintro _ _ ⟨b,rfl,rfl⟩;refine AY ?_; rintro _ _ ⟨rfl,rfl⟩;refine Ac4 ?_;refine Aaa ?_;refine A5 ?_
 revert b; intro b7
 refine AS (ρ:=sng b7 _) takeZ ?_
 have bx95_3:=rdB b7 77 [int x.1,int x.2]
 have m0:=rdC bx95_3 0
 have m1:=rdC bx95_3 1
 skip
 refine BU [0,1,4,7,8,9] (X:=Nat × Int × S) (0,x.1,σ1) (fun z=>z.1≤(pcs (x.2-x.1).toNat x.1 x.2).length∧x.1≤z.2.1∧z.2.1≤x.2∧(pcs (x.2-x.1).toNat x.1 x.2).drop z.1=pcs (x.2-z.2.1).toNat z.2.1 x.2∧Inv ((pcsAll (M.take k)).length+z.1) z.2.2) (fun z=>[(5,int z.2.1)]) (fun z=>Own z.2.2) (fun z=>(x.2-z.2.1).toNat) pickZ ⟨Nat.zero_le _,by dsimp only; omega,by dsimp only; omega,rfl,hI⟩ covZ Sel.refl ?_
 rintro ⟨j,f,σ2⟩ ⟨hle,hf1,hf2,hd,hI2⟩
 dsimp only at hle hf1 hf2 hd hI2 ⊢
 by_cases hfx:f<x.2
 rotate_left
 ·have hfe:f=x.2:=by omega
  subst hfe;rw [pcs_end (Int.le_refl _)] at hd
  have hjl:=List.drop_eq_nil_iff.1 hd
  refine Aah ?_;refine Aad ?_;refine BK ?_;refine Adh ?_;refine Abf ?_;refine CR ?_
  refine BG (k+1,σ2) ⟨by dsimp only; omega,?_⟩ (by dsimp only; omega) covZ Sel.refl
  dsimp only
  rw [hsc,List.length_append]
  rw [show (pcs (x.2-x.1).toNat x.1 x.2).length=j from by omega]
  exact hI2
 have hst:=pcs_step hx hd (by omega) hfx
 have hnx:=pcs_next (show 0≤f by omega) hfx
 have hya:=hy _ σ2 [.agg #[int f,int (min x.2 ((f / 16+1)*16))]] (by rw [List.getElem?_map,hst.1]; rfl) hI2
 generalize hm:min x.2 ((f / 16+1)*16)=m at hst hnx hya
 refine Aah ?_;refine Aad ?_;refine B7 ?_;refine Aai ?_;refine AN ?_;refine A5 ?_;refine Aam ?_;refine AB ?_;refine F5 ?_;refine CD ?_;refine FI ?_;refine FJ ?_;refine Aa8 ?_;refine Aao ?_;refine B6 ?_;rw [hm]
 skip
 refine BI hya rfl rfl Takes.all (fun τ hτ=>.inl (by simp [hτ])) rfl rfl ?_
 rintro _ H' ⟨σ3,rfl,⟨rfl,hI3⟩|⟨rfl,hSt⟩⟩
 ·rw [List.append_nil]
  refine Abr ?_;refine Ac7 ?_;refine Aaa ?_;refine BH ?_
  exact BG (j+1,m,σ3) ⟨hst.2.2,by dsimp only; omega,by dsimp only; omega,hst.2.1,hI3⟩ (by dsimp only; omega) covZ Sel.refl
 ·rw [List.append_nil]
  refine BE ?_;refine Aai ?_
  exact AK (res0 rfl) (fun _ h=>List.mem_cons_of_mem _ h) Sel.refl ⟨σ3,rfl,.inr hSt⟩
theorem segBatch_spec {ρ:PH} {v:Value} {M:Iv} {se sr:Int} {d:List UInt8} (hv:SpAt ρ v M) (hM:InI d.length M) (hne:M≠[]) (hn1:1≤d.length) (hn:d.length≤1999) (hse:0≤se∧se≤1099511627776) (hsr:1≤sr∧sr≤1099511627776) :
  Makes Tryz.prog (fv 133) [int se,int sr,str d,v] [ρ] (fun r σ=>∃ p c,r=.tuple #[.slice p (bat sr (pcsAll M)).length c,int 0]∧OwnS 54 8 (.slice p (bat sr (pcsAll M)).length c) (bat sr (pcsAll M)).length ((bat sr (pcsAll M)).flatMap (encG se d)) σ):=by
 have hin:=segInside_spec ρ v M d.length hv hM hn
 have hps:=segPieces_spec v (by obtain ⟨_,_,rfl,_⟩:=hv.val encS_len; rfl)
 have hit:=fun b1=>segPieces_iter hv hM hn b1
 have hMl:=hM.len (by omega)
 have hM0:0<M.length:=List.length_pos_iff.2 hne
 have hP0:0<(pcsAll M).length:=List.length_pos_iff.2 (pcsAll_ne hM.1 (fun x hx=>(hM.at x hx).1) hne)
 have hPl:=pcsAll_len hM (by omega)
 have hPa:∀ x∈pcsAll M,0≤x.1∧x.1<x.2∧x.2≤(d.length:Int):=fun x hx=>by
  obtain ⟨y,hy,g1,g2,g3,_⟩:=(pcsAll_ok hM.1 (fun x hx=>(hM.at x hx).1)).1 x hx
  have:=hM.at y hy
  omega
 have hbl:=bat_len sr (pcsAll M)
 obtain ⟨h6,h7⟩:=hse
 obtain ⟨h8,h9⟩:=hsr
 have hd0:(d == [])=false:=by
  cases d with
  | nil=>simp at hn1
  | cons _ _=>rfl
 obtain ⟨q,c,rfl,_⟩:=hv.val encS_len
 refine spec_in (cap:=[]) Tryz.func133 rfl rfl Tryz.ntmps133 rfl envZ (fun N β=>?_)
 refine CG ?_;refine Aa ?_;refine EB ?_; rintro _ _ ⟨b,rfl,rfl⟩;refine EB ?_; rintro _ _ ⟨b,rfl,rfl⟩;refine Aaj ?_;refine Aa2 ?_;refine Ac ?_
 revert b; intro b6
 revert b; intro b4
 refine AS (ρ:=sng b4 _) takeZ ?_;refine AS (ρ:=sng b6 _) takeZ ?_
 have bx220_3:=rdB b4 3 [int se]
 have g4:=rdC bx220_3 0
 have bx221_3:=rdB b6 9 [str d]
 have g6:=rdC bx221_3 0
 focus ((refine AT (segIn_spec (by omega) (by omega)) rfl rfl rdZ rfl rfl ?_; rintro _ rfl))
 refine Ada ?_
 focus ((refine AT (segIn_spec (by omega) (by omega)) rfl rfl rdZ rfl rfl ?_; rintro _ rfl))
 refine BE ?_;refine AP ?_;refine Ab9 ?_;refine Ac ?_;refine BT (E8 rfl rfl) rfl rfl rfl ?_;rw [hd0];refine Ab9 ?_;refine Ac ?_
 focus ((refine' BT _ rfl rfl rfl _; rotate_left; (apply B0; exact rfl; exact rfl)))
 refine BO ?_;refine Ab9 ?_;refine Aab ?_;refine AF ?_
 focus ((refine' BT _ rfl rfl rfl _; rotate_left; (apply B0; exact rfl; exact rfl)))
 refine AT hin rfl rfl rdZ rfl rfl ?_;rintro _ rfl;refine BE ?_;refine Ab9 ?_;refine Aab ?_;refine BD ?_;refine B9 ?_;refine Aaa ?_;refine Aaf ?_;refine BH ?_;refine Aa ?_;refine CQ ?_; rintro _ _ ⟨b,rfl,rfl⟩;refine Adi ?_
 revert b; intro b10
 refine BI hps rfl rfl Takes.nil (fun τ hτ=>by simp at hτ) rfl rfl ?_
 rintro _ _ ⟨b1,rfl,rfl⟩;refine AS (ρ:=sng b1 _) takeZ ?_;refine AE ?_;refine A5 ?_
 refine EL (gf:=203) (cap:=[.pointer (some ⟨b1,0,none⟩)]) (ps:=[41]) (X:=Value × PH) rfl Tryz.func203 rfl rfl
  (hit b1) ?_
  (fun i x=>OwnS 54 8 x.1 (((pcsAll M).take i).map fun y=>(sg0 y,false)).length ((((pcsAll M).take i).map fun y=>(sg0 y,false)).flatMap (encHg se d)) x.2)
  (fun x=>[sng b10 (.cells #[x.1] 185 (0,0)),x.2]) (fun _ _=>False) (.slice none 0 0,emp) rfl takesZ (OwnS.nil _ _) ?_ ?_ ?_
 ·intro σ' hσ
  simp only [List.mem_cons,List.not_mem_nil,or_false] at hσ ⊢
  rcases hσ with h|h <;> simp [h]
 ·rintro lo r i ⟨u,σ⟩ vs hvs hO hps has hbd hst hpe hfr
  obtain ⟨st,pe,fnn,tm,prm,asg,bdy,df⟩:=r
  simp only at hps has hbd hst hpe hfr;subst hps has hbd hst hpe;rw [List.getElem?_map] at hvs
  obtain ⟨x,hc,rfl⟩:=Option.map_eq_some_iff.1 hvs
  have hxa:=hPa x (List.mem_of_getElem? hc)
  have hi:=(List.getElem?_eq_some_iff.1 hc).1
  dsimp only at hO
  have htl:(((pcsAll M).take i).map fun y=>(sg0 y,false)).length=i:=by rw [List.length_map,List.length_take]; omega
  rw [htl] at hO
  have hnx:((pcsAll M).take (i+1)).map (fun y=>(sg0 y,false))=((pcsAll M).take i).map (fun y=>(sg0 y,false)) ++ [(sg0 x,false)]:=by
   rw [List.take_add_one,hc,List.map_append]; rfl
  obtain ⟨aa,ha⟩:∃ a:Nat,x.1=(a:Int):=⟨x.1.toNat,by omega⟩
  obtain ⟨bb,hb⟩:∃ b:Nat,x.2=(b:Int):=⟨x.2.toNat,by omega⟩
  have esg:encHg se d (sg0 x,false)=[int 1,int se,int 0,int (aa:Int),int (d.length:Int),.bool false,str ((d.drop aa).take (bb-aa)),.slice none 0 0]:=by
   simp [encHg,sg0,ha,hb,cutD]
  rw [ha,hb] at hxa;rw [ha,hb]
  have hu1:u.oneCell'=true:=by obtain ⟨_,_,rfl⟩:=hO.form; rfl
  refine yield_spec hfr rfl (by intro p hp; simp at hp; omega) putiZ (fun N' β'=>?_)
  dsimp only
  refine AA ?_;refine A4 ?_; rintro _ _ ⟨b,rfl,rfl⟩;refine AY ?_; rintro _ _ ⟨rfl,rfl⟩;refine AE ?_;refine DO rfl rfl ?_;refine D4 takeZ rfl ?_
  revert b; intro bx
  refine AS (ρ:=sng bx _) takeZ ?_
  have bx320_3:=rdB bx 77 [int (aa:Int),int (bb:Int)]
  have m0:=rdC bx320_3 0
  have m1:=rdC bx320_3 1
  refine A5 ?_
  refine BB (.q 0 (.q 1 (.q 2 (.q 3 (.q 4 (.q 5 (.q 6 (.q 7 (.q 8 (.q 9 (.q 10 (.q 11 (.q 12 (.l 13 .e (.l 14 .b (.l 15 .b .nil)))))))))))))))) [] rfl (by kernel_rfl) Sel.nil ?_
  refine AX ?_;refine AX ?_;refine Aan ?_;refine AX ?_
  focus ((refine' CJ rfl _ rfl rfl rfl rfl _; rotate_left; (apply B0; exact rfl; exact rfl)))
  refine AX ?_;refine Adk ?_
  focus ((refine' CJ rfl _ rfl rfl rfl rfl _; rotate_left; (apply FO; exact rfl; exact rfl; exact rfl; exact rfl; omega; omega)))
  refine C6 ?_
  have hfl:Flat [.agg #[int 1,int se,int 0,int (aa:Int),int (d.length:Int),.bool false,str ((d.drop aa).take (bb-aa)),.slice none 0 0]] [int 1,int se,int 0,int (aa:Int),int (d.length:Int),.bool false,str ((d.drop aa).take (bb-aa)),.slice none 0 0]:=Flat.agg (ws:=[int 1,int se,int 0,int (aa:Int),int (d.length:Int),.bool false,str ((d.drop aa).take (bb-aa)),.slice none 0 0]) Flat.nil
  refine BQ (a_e rfl (BW (cs:=[int 1,int se,int 0,int (aa:Int),int (d.length:Int),.bool false,str ((d.drop aa).take (bb-aa)),.slice none 0 0]) rfl rfl rfl rfl rfl oneZ hfl rfl) rfl rfl rfl (by rintro _ _ ⟨b,rfl,rfl⟩ w hw; exact hw.tail) ?_)
  rintro _ _ ⟨bn,rfl,rfl⟩
  refine BQ (a_b rfl (CU (by_:=88) (s:=8) (news:=[int 1,int se,int 0,int (aa:Int),int (d.length:Int),.bool false,str ((d.drop aa).take (bb-aa)),.slice none 0 0]) rfl rfl rfl rfl rfl rfl rfl hO takeZ (cells_own memZ) rfl oneZ (by omega) (by simp only [maxLen]; omega) (by omega)) rfl rfl rfl (fun _ _ _ w hw=>hw.sel Sel.nil) ?_)
  rintro u1 _ ⟨σ1,hO1,rfl⟩
  obtain ⟨pu,ku,rfl⟩:=hO1.form
  refine CT ?_; rintro _ _ ⟨rfl,rfl⟩;refine A8 ?_;refine BH ?_;refine CV takeZ rsubZ selZ ⟨(.slice pu (i+1) ku,σ1),.inl ⟨rfl,?_,rfl⟩⟩
  dsimp only
  rw [hnx,List.length_append,List.flatMap_append,htl];simp only [List.flatMap_cons,List.flatMap_nil,List.append_nil,esg];exact hO1
 ·rintro b2' ⟨u,σ⟩ hO
  dsimp only at hO
  have hxl:((pcsAll M).map (fun x=>[Value.agg #[int x.1,int x.2]])).length=(pcsAll M).length:=List.length_map _
  rw [hxl,List.take_length] at hO
  obtain ⟨bu,cu,rfl⟩:=hO.formP (by rw [List.length_map]; exact hP0)
  have hx:=List.getElem?_eq_getElem (show (pcsAll M).length-1<(pcsAll M).length by omega)
  have hxa:=hPa _ (List.getElem_mem (show (pcsAll M).length-1<(pcsAll M).length by omega))
  generalize (pcsAll M)[(pcsAll M).length-1]=x at hx hxa
  have hbe:=bat_enc (se:=se) (d:=d) h8 hx
  have hml:((pcsAll M).map fun y=>(sg0 y,false)).length=(pcsAll M).length:=List.length_map _
  have hget:((pcsAll M).map fun y=>(sg0 y,false))[(pcsAll M).length-1]?=some (sg0 x,false):=by rw [List.getElem?_map,hx]; rfl
  refine BH ?_;refine Ac ?_;refine AF ?_;refine BD ?_;refine CK ?_;refine CA ?_;refine Abv ?_;refine Aao ?_;refine AU ?_;refine DQ ?_
  refine B4 (EP (encHg_len se d) (s:=8) ((pcsAll M).length-1) 2 (⟨x.1.toNat,x.2.toNat,sr⟩,false) hO rfl (by simp; rfl) (by decide) hget rfl rfl rfl rfl takeZ) rfl rfl ?_
  rintro _ _ ⟨rfl,σ1,hO1,rfl⟩
  have hget2:(((pcsAll M).map fun y=>(sg0 y,false)).set ((pcsAll M).length-1) ((⟨x.1.toNat,x.2.toNat,sr⟩:Sg),false))[(pcsAll M).length-1]?=some (⟨x.1.toNat,x.2.toNat,sr⟩,false):=by
   rw [List.getElem?_set,if_pos rfl,if_pos (by rw [hml]; omega)]
  refine AU ?_;refine DQ ?_
  refine B4 (EP (encHg_len se d) (s:=8) ((pcsAll M).length-1) 5 (⟨x.1.toNat,x.2.toNat,sr⟩,true) hO1 rfl (by simp; rfl) (by decide) hget2 rfl rfl rfl rfl takeZ) rfl rfl ?_
  rintro _ _ ⟨rfl,σ2,hO2,rfl⟩;rw [List.set_set,hbe,List.length_set,hml] at hO2
  dsimp only
  rw [hml];refine AE ?_;refine Ac ?_;refine Aaj ?_
  refine EM (Marks.cons (Take.there .here) .nil) (res2 rfl rfl rfl) rsubZ selZ ⟨σ2,⟨some ⟨bu,0,none⟩,cu,by rw [hbl]; rfl,?_⟩,rfl⟩
  rw [hbl];exact hO2
 ·rintro _ _ _ h; exact h.elim
theorem sideNext_spec (ρ:PH) (v:Value) (l:Iv) (b p:Nat) (hv:SpAt ρ v l) (hl:l.length≤4611686018427387903) (hp:p≤2*l.length) :
  Ans Tryz.prog (fv 265) [.pointer (some ⟨b,0,none⟩)] [sng b (.cells #[v,int ((p / 2:Nat):Int),.bool (oddB p)] 372 (0,0)),ρ] (fun r=>r=.tuple #[int ((tog l).getD p 0),.bool (decide (p<2*l.length))]):=by
 obtain ⟨q,c,rfl,hr⟩:=hv.val encS_len
 have hod:=oddB_cases p
 obtain ⟨i,hi⟩:∃ i,p / 2=i:=⟨_,rfl⟩
 rw [hi] at hod ⊢
 have ct:=rdB b 372 [.slice q l.length c,int ((i:Nat):Int),.bool (oddB p)]
 have ct0:=rdC ct 0
 have ct1:=rdC ct 1
 have ct2:=rdC ct 2
 refine spec_in (cap:=[]) Tryz.func265 rfl rfl Tryz.ntmps265 rfl envZ (fun N β=>?_)
 by_cases h0:p=2*l.length
 ·have hR:(tog l).getD p 0=0:=by rw [List.getD_eq_getElem?_getD,List.getElem?_eq_none (by rw [tog_len]; omega)]; rfl
  rw [hR,decide_eq_false (by omega)]
  have hil:i=l.length:=by omega
  refine Acn ?_;refine Aa2 ?_;refine AD ?_
  refine BB P3Z [] rfl (by kernel_rfl) selZ ?_
  refine Acg ?_;refine C1 ?_;refine ED ?_;refine Aaq ?_;refine AW rfl ?_;refine Acn ?_;exact AK (res2 rfl rfl rfl) rsubZ selZ ⟨rfl,rfl⟩
 have hil:i<l.length:=by omega
 obtain ⟨g1,g2⟩:=tog_get l i _ (List.getElem?_eq_getElem hil)
 rw [decide_eq_true (show p<2*l.length by omega)]
 obtain ⟨b4,o4,rfl,hrd,x0,x1⟩:=spRow hr (List.getElem?_eq_getElem hil)
 rcases hod with ⟨ho,hp2⟩|⟨ho,hp2⟩
 ·have hR:(tog l).getD p 0=l[i].2:=by rw [List.getD_eq_getElem?_getD,hp2,g2]; rfl
  rw [hR];rw [ho] at ct ct0 ct1 ct2 ⊢
  generalize l[i]=x at hrd x0 x1
  refine Acn ?_;refine Aa2 ?_;refine AD ?_
  refine BB P3Z [] rfl (by kernel_rfl) selZ ?_
  refine Acg ?_;refine C1 ?_;refine D9 ?_;refine Aaq ?_;refine AM rfl ?_;refine Ad0 ?_;refine Aaa ?_;refine AW rfl ?_;refine AD ?_
  refine BB P2Z [] rfl (by kernel_rfl) selZ ?_
  refine Acg ?_;refine CE ?_;refine Acw ?_;refine Abo ?_
  skip
  exact AK (res2 rfl rfl rfl) rsubZ selZ ⟨rfl,rfl⟩
 ·have hR:(tog l).getD p 0=l[i].1:=by rw [List.getD_eq_getElem?_getD,hp2,g1]; rfl
  rw [hR];rw [ho] at ct ct0 ct1 ct2 ⊢
  generalize l[i]=x at hrd x0 x1
  refine Acn ?_;refine Aa2 ?_;refine AD ?_
  refine BB P3Z [] rfl (by kernel_rfl) selZ ?_
  refine Acg ?_;refine C1 ?_;refine D9 ?_;refine Aaq ?_;refine AM rfl ?_;refine Ad0 ?_;refine Aaa ?_;refine Aaf ?_;refine BH ?_;refine AD ?_
  refine BB P2Z [] rfl (by kernel_rfl) selZ ?_
  refine Acg ?_;refine CE ?_;refine Ac1 ?_;refine Abo ?_
  skip
  exact AK (res2 rfl rfl rfl) rsubZ selZ ⟨rfl,rfl⟩
theorem sidePass_spec (ρ:PH) (v:Value) (l:Iv) (b p:Nat) (t:Int) (hv:SpAt ρ v l) (hl:l.length≤4611686018427387903) (hp:p≤2*l.length) :
  Eng.Spec Tryz.prog (fv 266) [.pointer (some ⟨b,0,none⟩),int t] [ρ] [sng b (.cells #[v,int ((p / 2:Nat):Int),.bool (oddB p)] 372 (0,0))] (fun r H'=>r=.tuple #[]∧H'=[sng b (.cells #[v,int ((stp (tog l) t p / 2:Nat):Int),.bool (oddB (stp (tog l) t p))] 372 (0,0))]):=by
 have hn:=sideNext_spec ρ v l b p hv hl hp
 obtain ⟨q,c,rfl,hr⟩:=hv.val encS_len
 refine spec_in (cap:=[]) Tryz.func266 rfl rfl Tryz.ntmps266 rfl envZ (fun N β=>?_)
 refine Aah ?_;refine AT hn rfl rfl rdZ rfl rfl ?_;rintro _ rfl
 by_cases h1:p<2*l.length
 rotate_left
 ·have hs:stp (tog l) t p=p:=by unfold stp; rw [if_neg (by rw [tog_len]; omega)]
  rw [hs,decide_eq_false h1];refine Aa7 ?_;refine Aco ?_;refine Aa3 ?_;refine Abk ?_;exact AK (res0 rfl) rsubZ selZ ⟨rfl,rfl⟩
 rw [decide_eq_true h1]
 by_cases h2:(tog l).getD p 0=t
 rotate_left
 ·have hs:stp (tog l) t p=p:=by unfold stp; rw [if_neg (fun h=>h2 h.2)]
  rw [hs]
  generalize (tog l).getD p 0=z at h2
  refine Aa7 ?_;refine Aco ?_;refine Abq ?_;refine C8 ?_;refine AP ?_;refine Aai ?_;exact AK (res0 rfl) rsubZ selZ ⟨rfl,rfl⟩
 have hs:stp (tog l) t p=p+1:=by unfold stp; rw [if_pos ⟨by rw [tog_len]; exact h1,h2⟩]
 rw [hs,h2]
 have hod:=oddB_cases p
 have hi2:(p+1) / 2=if oddB p=true then p / 2+1 else p / 2:=by
  rcases hod with ⟨ho,hp2⟩|⟨ho,hp2⟩
  ·rw [if_pos ho]; omega
  ·rw [if_neg (by rw [ho]; simp)]; omega
 rw [hi2,oddB_succ]
 obtain ⟨i,hi⟩:∃ i,p / 2=i:=⟨_,rfl⟩
 rw [hi] at hod ⊢;clear hn
 rcases hod with ⟨ho,hp2⟩|⟨ho,hp2⟩
 ·rw [ho,if_pos rfl]
  refine Aa7 ?_;refine Aco ?_;refine Abq ?_;refine Adb ?_;refine Aah ?_;refine Abh ?_;refine Aai ?_;refine Ac7 ?_;refine Abh ?_;refine BS ?_;refine Abc ?_;refine BC ?_; rintro _ _ ⟨rfl,rfl⟩;refine AE ?_;refine Acp ?_;refine Abh ?_;refine BE ?_;refine Abc ?_;refine BC ?_; rintro _ _ ⟨rfl,rfl⟩;refine AE ?_;exact BV (res0 rfl) rsubZ selZ ⟨rfl,rfl⟩
 ·rw [ho,if_neg (by simp)]
  refine Aa7 ?_;refine Aco ?_;refine Abq ?_;refine Adb ?_;refine Aah ?_;refine Abh ?_;refine Aag ?_;refine Acp ?_;refine Abh ?_;refine BE ?_;refine Abc ?_;refine BC ?_; rintro _ _ ⟨rfl,rfl⟩;refine AE ?_;exact BV (res0 rfl) rsubZ selZ ⟨rfl,rfl⟩
def encPt (x:Int × Bool × Bool):List Value:=[int x.1,.agg #[.bool x.2.1,.bool x.2.2]]
theorem points_iter (ρ τ:PH) (va vb:Value) (a b:Iv) (b1 b2:Nat) (ha:SpAt ρ va a) (hb:SpAt τ vb b) (hla:a.length≤1000000) (hlb:b.length≤1000000) :
  Iter Tryz.prog (.func (.func 264) #[] #[.pointer (some ⟨b1,0,none⟩),.pointer (some ⟨b2,0,none⟩)]) [sng b1 (.cells #[va] 25 (0,0)),sng b2 (.cells #[vb] 25 (0,0)),ρ,τ] ((mrg (tog a) false (tog b) false).map encPt):=by
 intro y S Own Inv Stop Ry hy hyl σ0 hI0
 obtain ⟨yl,rfl⟩:=hyl
 have hna:=fun bx p hp=>sideNext_spec ρ va a bx p ha (by omega) hp
 have hnb:=fun bx p hp=>sideNext_spec τ vb b bx p hb (by omega) hp
 have hpa:=fun bx p t hp=>sidePass_spec ρ va a bx p t ha (by omega) hp
 have hpb:=fun bx p t hp=>sidePass_spec τ vb b bx p t hb (by omega) hp
 obtain ⟨qa,ca,rfl,hra⟩:=ha.val encS_len
 obtain ⟨qb,cb,rfl,hrb⟩:=hb.val encS_len
 have bx20_3:=rdB b1 25 [.slice qa a.length ca]
 have c1:=rdC bx20_3 0
 have bx21_3:=rdB b2 25 [.slice qb b.length cb]
 have c2:=rdC bx21_3 0
 have la:=tog_len a
 have lb:=tog_len b
 simp only [List.cons_append,List.nil_append]
 refine spec_in (cap:=[.pointer (some ⟨b1,0,none⟩),.pointer (some ⟨b2,0,none⟩)]) Tryz.func264 rfl rfl Tryz.ntmps264 rfl envZ (fun N β=>?_)
 refine AD ?_
 refine DG (X:=Nat × Nat) [0,1,2] (fun _=>True) (fun x=>[(4,.pointer (some ⟨x.1,0,none⟩)),(5,.pointer (some ⟨x.2,0,none⟩))]) (fun x=>sng x.2 (.cells #[.slice qb b.length cb,int ((0 / 2:Nat):Int),.bool (oddB 0)] 372 (0,0))::sng x.1 (.cells #[.slice qa a.length ca,int ((0 / 2:Nat):Int),.bool (oddB 0)] 372 (0,0))::Own σ0) pickZ ?_ ?_
 ·refine BB (.q 0 (.q 1 (.q 3 (.q 4 (.l2 2 .e (.q 6 (.l 5 .e (.q 7 .nil))) 5 .e (.l 2 .e (.q 6 (.q 7 .nil)))))))) [] rfl (by kernel_rfl) Sel.nil ?_
  repeat' (first
   | (refine AR ?_)
   | (refine AX ?_)
   | (refine C6 ?_)
   | (refine A8 ?_)
   | (refine C4 ?_ ?_)
   | (refine GX ?_; rintro _ _ ⟨b,rfl,rfl⟩)
   | (refine GW ?_; rintro _ _ ⟨b,rfl,rfl⟩)
   | fail)
  ·refine BF (_,_) trivial covZ ?_
   exact Sel.refl
  ·refine EN (List.Perm.swap _ _ _) ?_
   refine BF (_,_) trivial covZ ?_;exact Sel.refl
 rintro ⟨bx,by_⟩ _
 dsimp only
 refine A5 ?_
 refine BU [0,1,2,4,5] (X:=Nat × Nat × Nat × S) (0,0,0,σ0) (fun x=>x.1≤(mrg (tog a) false (tog b) false).length∧x.2.1≤2*a.length∧x.2.2.1≤2*b.length∧(mrg (tog a) false (tog b) false).drop x.1=mrg ((tog a).drop x.2.1) (oddB x.2.1) ((tog b).drop x.2.2.1) (oddB x.2.2.1)∧Inv x.1 x.2.2.2) (fun _=>[]) (fun x=>sng by_ (.cells #[.slice qb b.length cb,int ((x.2.2.1 / 2:Nat):Int),.bool (oddB x.2.2.1)] 372 (0,0))::sng bx (.cells #[.slice qa a.length ca,int ((x.2.1 / 2:Nat):Int),.bool (oddB x.2.1)] 372 (0,0))::Own x.2.2.2) (fun x=>(2*a.length-x.2.1)+(2*b.length-x.2.2.1)) pickZ ⟨by dsimp only; omega,by dsimp only; omega,by dsimp only; omega,rfl,hI0⟩ covZ Sel.refl ?_
 rintro ⟨k,p,q,σ'⟩ ⟨hk,hp,hq,hS,hI⟩
 dsimp only at hk hp hq hS hI ⊢
 have h1:=hna bx p hp
 have h2:=hnb by_ q hq
 refine A5 ?_;refine Aab ?_;refine AT h1 rfl rfl rdZ rfl rfl ?_;rintro _ rfl;refine Aa7 ?_;refine Aab ?_;refine AT h2 rfl rfl rdZ rfl rfl ?_;rintro _ rfl
 generalize hm:(tog a).getD p 0=m
 generalize hn:(tog b).getD q 0=n
 by_cases h1:p<2*a.length
 ·rw [decide_eq_true h1]
  by_cases h2:q<2*b.length∧n<m
  ·have hX:nxtT (tog a) (tog b) p q=n:=by unfold nxtT; rw [if_pos (by omega),if_pos (by rw [hm,hn]; omega),hn]
   rw [decide_eq_true h2.1]
   have h2n:=h2.2
   have hlive:p<(tog a).length∨q<(tog b).length:=by omega
   have hS':=mrg_at (by omega) (by omega) hlive
   have hgo:=stp_go hlive
   rw [hX] at hS' hgo;rw [← hS] at hS'
   obtain ⟨g1,g2,g3⟩:=drop_head hS'
   have p1:=stp_le (A:=tog a) (t:=n) (p:=p) (by omega)
   have q1:=stp_le (A:=tog b) (t:=n) (p:=q) (by omega)
   have hy1:=hy k σ' (encPt (n,oddB (stp (tog a) n p),oddB (stp (tog b) n q))) (by rw [List.getElem?_map,g1]; rfl) hI
   have k1:=hpa bx p n hp
   have k2:=hpb by_ q n hq
   generalize stp (tog a) n p=p' at g2 hy1 k1 p1 hgo
   generalize stp (tog b) n q=q' at g2 hy1 k2 q1 hgo
   refine Acz ?_;refine BE ?_;refine Aas ?_;refine Aa4 ?_;refine Aab ?_;refine Aa8 ?_;refine Ada ?_;refine Abq ?_;refine B7 ?_;refine AV ?_;refine AP ?_;refine Aai ?_;refine Ac7 ?_;refine Aca ?_;refine BI k1 rfl rfl takesZ rdZ rfl rfl ?_;rintro _ _ ⟨rfl,rfl⟩;refine AE ?_;refine Aar ?_;refine BI k2 rfl rfl takesZ rdZ rfl rfl ?_;rintro _ _ ⟨rfl,rfl⟩;refine Aap ?_
   refine BB (.q 0 (.q 1 (.q 2 (.q 3 (.q 4 (.q 5 (.q 6 (.q 7 (.q 8 (.q 9 (.q 10 (.l 11 .b (.q 12 .nil))))))))))))) [] rfl (by kernel_rfl) Sel.nil ?_
   refine Abp ?_;refine Acg ?_
   focus ((refine' CJ rfl _ rfl rfl rfl rfl _; rotate_left; (focus (apply DU; exact rfl; exact rfl; exact rfl; exact rfl; exact rfl; exact rfl; exact rfl))))
   refine BQ (CH rfl hy1 rfl rfl (Takes.skip (Takes.skip Takes.all)) (fun τ hτ=>.inl (by simp [hτ])) rfl rfl (fun _ _ _ w hw=>hw.sel Sel.nil) ?_)
   rintro _ H' ⟨σ1,rfl,⟨rfl,hI1⟩|⟨rfl,hSt⟩⟩
   ·refine ES (H':=_::_::Own σ1) (List.perm_append_comm (l₂:=[_,_])) ?_
    refine DC ?_;refine Ab0 ?_;refine BH ?_
    exact BG (k+1,p',q',σ1) ⟨by dsimp only; omega,by dsimp only; omega,by dsimp only; omega,g2,hI1⟩ (by dsimp only; omega) covZ Sel.refl
   ·refine DC ?_
    refine Aci ?_
    exact AK (res0 rfl) (fun _ h=>h) Sel.left ⟨σ1,rfl,.inr hSt⟩
  ·have hX:nxtT (tog a) (tog b) p q=m:=by unfold nxtT; rw [if_pos (by omega),if_neg (by rw [hm,hn]; omega),hm]
   by_cases h3:q<2*b.length
   ·rw [decide_eq_true h3]
    have h2n:¬ n<m:=fun h=>h2 ⟨h3,h⟩
    have hlive:p<(tog a).length∨q<(tog b).length:=by omega
    have hS':=mrg_at (by omega) (by omega) hlive
    have hgo:=stp_go hlive
    rw [hX] at hS' hgo;rw [← hS] at hS'
    obtain ⟨g1,g2,g3⟩:=drop_head hS'
    have p1:=stp_le (A:=tog a) (t:=m) (p:=p) (by omega)
    have q1:=stp_le (A:=tog b) (t:=m) (p:=q) (by omega)
    have hy1:=hy k σ' (encPt (m,oddB (stp (tog a) m p),oddB (stp (tog b) m q))) (by rw [List.getElem?_map,g1]; rfl) hI
    have k1:=hpa bx p m hp
    have k2:=hpb by_ q m hq
    generalize stp (tog a) m p=p' at g2 hy1 k1 p1 hgo
    generalize stp (tog b) m q=q' at g2 hy1 k2 q1 hgo
    refine Acz ?_;refine BE ?_;refine Aas ?_;refine Aa4 ?_;refine Aab ?_;refine Aa8 ?_;refine Ada ?_;refine Abq ?_;refine BK ?_;refine AV ?_;refine Aa4 ?_;refine Aar ?_;refine BI k1 rfl rfl takesZ rdZ rfl rfl ?_;rintro _ _ ⟨rfl,rfl⟩;refine AE ?_;refine Aar ?_;refine BI k2 rfl rfl takesZ rdZ rfl rfl ?_;rintro _ _ ⟨rfl,rfl⟩;refine Aap ?_
    refine BB (.q 0 (.q 1 (.q 2 (.q 3 (.q 4 (.q 5 (.q 6 (.q 7 (.q 8 (.q 9 (.q 10 (.l 11 .b (.q 12 .nil))))))))))))) [] rfl (by kernel_rfl) Sel.nil ?_
    refine Abp ?_;refine Acg ?_
    focus ((refine' CJ rfl _ rfl rfl rfl rfl _; rotate_left; (focus (apply DU; exact rfl; exact rfl; exact rfl; exact rfl; exact rfl; exact rfl; exact rfl))))
    refine BQ (CH rfl hy1 rfl rfl (Takes.skip (Takes.skip Takes.all)) (fun τ hτ=>.inl (by simp [hτ])) rfl rfl (fun _ _ _ w hw=>hw.sel Sel.nil) ?_)
    rintro _ H' ⟨σ1,rfl,⟨rfl,hI1⟩|⟨rfl,hSt⟩⟩
    ·refine ES (H':=_::_::Own σ1) (List.perm_append_comm (l₂:=[_,_])) ?_
     refine DC ?_;refine Ab0 ?_;refine BH ?_
     exact BG (k+1,p',q',σ1) ⟨by dsimp only; omega,by dsimp only; omega,by dsimp only; omega,g2,hI1⟩ (by dsimp only; omega) covZ Sel.refl
    ·refine DC ?_
     refine Aci ?_
     exact AK (res0 rfl) (fun _ h=>h) Sel.left ⟨σ1,rfl,.inr hSt⟩
   ·rw [decide_eq_false h3]
    have hlive:p<(tog a).length∨q<(tog b).length:=by omega
    have hS':=mrg_at (by omega) (by omega) hlive
    have hgo:=stp_go hlive
    rw [hX] at hS' hgo;rw [← hS] at hS'
    obtain ⟨g1,g2,g3⟩:=drop_head hS'
    have p1:=stp_le (A:=tog a) (t:=m) (p:=p) (by omega)
    have q1:=stp_le (A:=tog b) (t:=m) (p:=q) (by omega)
    have hy1:=hy k σ' (encPt (m,oddB (stp (tog a) m p),oddB (stp (tog b) m q))) (by rw [List.getElem?_map,g1]; rfl) hI
    have k1:=hpa bx p m hp
    have k2:=hpb by_ q m hq
    generalize stp (tog a) m p=p' at g2 hy1 k1 p1 hgo
    generalize stp (tog b) m q=q' at g2 hy1 k2 q1 hgo
    refine Acz ?_;refine BE ?_;refine Aas ?_;refine Aa4 ?_;refine Aab ?_;refine Aa8 ?_;refine Ada ?_;refine Aa3 ?_;refine AP ?_;refine Aa4 ?_;refine Aar ?_;refine BI k1 rfl rfl takesZ rdZ rfl rfl ?_;rintro _ _ ⟨rfl,rfl⟩;refine AE ?_;refine Aar ?_;refine BI k2 rfl rfl takesZ rdZ rfl rfl ?_;rintro _ _ ⟨rfl,rfl⟩;refine Aap ?_
    refine BB (.q 0 (.q 1 (.q 2 (.q 3 (.q 4 (.q 5 (.q 6 (.q 7 (.q 8 (.q 9 (.q 10 (.l 11 .b (.q 12 .nil))))))))))))) [] rfl (by kernel_rfl) Sel.nil ?_
    refine Abp ?_;refine Acg ?_
    focus ((refine' CJ rfl _ rfl rfl rfl rfl _; rotate_left; (focus (apply DU; exact rfl; exact rfl; exact rfl; exact rfl; exact rfl; exact rfl; exact rfl))))
    refine BQ (CH rfl hy1 rfl rfl (Takes.skip (Takes.skip Takes.all)) (fun τ hτ=>.inl (by simp [hτ])) rfl rfl (fun _ _ _ w hw=>hw.sel Sel.nil) ?_)
    rintro _ H' ⟨σ1,rfl,⟨rfl,hI1⟩|⟨rfl,hSt⟩⟩
    ·refine ES (H':=_::_::Own σ1) (List.perm_append_comm (l₂:=[_,_])) ?_
     refine DC ?_;refine Ab0 ?_;refine BH ?_
     exact BG (k+1,p',q',σ1) ⟨by dsimp only; omega,by dsimp only; omega,by dsimp only; omega,g2,hI1⟩ (by dsimp only; omega) covZ Sel.refl
    ·refine DC ?_
     refine Aci ?_
     exact AK (res0 rfl) (fun _ h=>h) Sel.left ⟨σ1,rfl,.inr hSt⟩
 ·rw [decide_eq_false h1]
  by_cases h2:q<2*b.length
  ·have hX:nxtT (tog a) (tog b) p q=n:=by unfold nxtT; rw [if_neg (by omega),hn]
   rw [decide_eq_true h2]
   have hlive:p<(tog a).length∨q<(tog b).length:=by omega
   have hS':=mrg_at (by omega) (by omega) hlive
   have hgo:=stp_go hlive
   rw [hX] at hS' hgo;rw [← hS] at hS'
   obtain ⟨g1,g2,g3⟩:=drop_head hS'
   have p1:=stp_le (A:=tog a) (t:=n) (p:=p) (by omega)
   have q1:=stp_le (A:=tog b) (t:=n) (p:=q) (by omega)
   have hy1:=hy k σ' (encPt (n,oddB (stp (tog a) n p),oddB (stp (tog b) n q))) (by rw [List.getElem?_map,g1]; rfl) hI
   have k1:=hpa bx p n hp
   have k2:=hpb by_ q n hq
   generalize stp (tog a) n p=p' at g2 hy1 k1 p1 hgo
   generalize stp (tog b) n q=q' at g2 hy1 k2 q1 hgo
   refine Acz ?_;refine Ada ?_;refine BE ?_;refine AV ?_;refine Aag ?_;refine Aab ?_;refine Aa8 ?_;refine BE ?_;refine Adj ?_;refine Abk ?_;refine Ac7 ?_;refine Aca ?_;refine BI k1 rfl rfl takesZ rdZ rfl rfl ?_;rintro _ _ ⟨rfl,rfl⟩;refine AE ?_;refine Aar ?_;refine BI k2 rfl rfl takesZ rdZ rfl rfl ?_;rintro _ _ ⟨rfl,rfl⟩;refine Aap ?_
   refine BB (.q 0 (.q 1 (.q 2 (.q 3 (.q 4 (.q 5 (.q 6 (.q 7 (.q 8 (.q 9 (.q 10 (.l 11 .b (.q 12 .nil))))))))))))) [] rfl (by kernel_rfl) Sel.nil ?_
   refine Abp ?_;refine Acg ?_
   focus ((refine' CJ rfl _ rfl rfl rfl rfl _; rotate_left; (focus (apply DU; exact rfl; exact rfl; exact rfl; exact rfl; exact rfl; exact rfl; exact rfl))))
   refine BQ (CH rfl hy1 rfl rfl (Takes.skip (Takes.skip Takes.all)) (fun τ hτ=>.inl (by simp [hτ])) rfl rfl (fun _ _ _ w hw=>hw.sel Sel.nil) ?_)
   rintro _ H' ⟨σ1,rfl,⟨rfl,hI1⟩|⟨rfl,hSt⟩⟩
   ·refine ES (H':=_::_::Own σ1) (List.perm_append_comm (l₂:=[_,_])) ?_
    refine DC ?_;refine Ab0 ?_;refine BH ?_
    exact BG (k+1,p',q',σ1) ⟨by dsimp only; omega,by dsimp only; omega,by dsimp only; omega,g2,hI1⟩ (by dsimp only; omega) covZ Sel.refl
   ·refine DC ?_
    refine Aci ?_
    exact AK (res0 rfl) (fun _ h=>h) Sel.left ⟨σ1,rfl,.inr hSt⟩
  ·rw [decide_eq_false h2]
   have hpe:p=(tog a).length:=by omega
   have hqe:q=(tog b).length:=by omega
   rw [hpe,hqe,mrg_end] at hS
   have hke:k=(mrg (tog a) false (tog b) false).length:=by
    have:=List.drop_eq_nil_iff.1 hS
    omega
   refine Acz ?_;refine Ada ?_;refine BE ?_;refine Abk ?_
   refine AK (res0 rfl) (fun _ h=>h) (Sel.skip (Sel.skip Sel.refl)) ⟨σ',rfl,.inl ?_⟩
   rw [List.length_map,← hke];exact hI
theorem points_spec (v u:Value) (hv:v.oneCell'=true) (hu:u.oneCell'=true) :
  Eng.Spec Tryz.prog (fv 226) [v,u] [] [] (fun r H'=>∃ b1 b2,r=.func (.func 264) #[] #[.pointer (some ⟨b1,0,none⟩),.pointer (some ⟨b2,0,none⟩)]∧H'=[sng b2 (.cells #[u] 25 (0,0)),sng b1 (.cells #[v] 25 (0,0))]):=by
 refine spec_in (cap:=[]) Tryz.func226 rfl rfl Tryz.ntmps226 rfl envZ (fun N β=>?_)
 refine Aa ?_;refine BJ (DZ rfl hv) rfl rfl rfl ?_;rintro _ _ ⟨b1,rfl,rfl⟩;refine BJ (DZ rfl hu) rfl rfl rfl ?_;rintro _ _ ⟨b2,rfl,rfl⟩;refine Ach ?_;refine BZ ?_;refine Aaa ?_;exact AK (res1 rfl rfl) rsubZ selZ ⟨b1,b2,rfl,rfl⟩
theorem ivCombine_spec (ρ τ:PH) (va vb:Value) (gf:FuncId) (a b:Iv) (f:Bool→Bool→Bool) (ha:SpAt ρ va a) (hb:SpAt τ vb b) (h0a:chkI a=0) (h0b:chkI b=0) (hlen:a.length+b.length≤1000) (hf:f false false=false)
  (hfn:∀ x y,Ans Tryz.prog (.func (.func gf) #[] #[]) [.bool x,.bool y] [] (fun r=>r=.bool (f x y))) :
  Makes Tryz.prog (fv 204) [va,vb,.func (.func gf) #[] #[]] [ρ,τ] (fun r σ=>∃ u,r=.tuple #[u,int 0]∧OwnS 77 2 u (combI f a b).length ((combI f a b).flatMap encS) σ):=by
 have hca:=ivCheck_spec ρ va a ha (by omega)
 have hcb:=ivCheck_spec τ vb b hb (by omega)
 rw [h0a] at hca;rw [h0b] at hcb
 have hpts:=fun b1 b2=>points_iter ρ τ va vb a b b1 b2 ha hb (by omega) (by omega)
 have hcl:=(combI_ok hf (chkI_norm h0a).2.1 (chkI_norm h0b).2.1).2.2
 have hml:=mrg_len _ (tog a) false (tog b) false (Nat.le_refl _)
 rw [tog_len,tog_len] at hml
 obtain ⟨qa,ca,rfl,_⟩:=ha.val encS_len
 obtain ⟨qb,cb,rfl,_⟩:=hb.val encS_len
 refine spec_in (cap:=[]) Tryz.func204 rfl rfl Tryz.ntmps204 rfl envZ (fun N β=>?_)
 refine CG ?_;refine Aa ?_;refine EB ?_; rintro _ _ ⟨b,rfl,rfl⟩;refine Aaj ?_;refine Aah ?_
 revert b; intro b5
 refine AS (ρ:=sng b5 _) takeZ ?_
 have bx55_3:=rdB b5 316 [.func (.func gf) #[] #[]]
 have g5:=rdC bx55_3 0
 refine AT hca rfl rfl rdZ rfl rfl ?_;rintro _ rfl;refine BM ?_;refine Aao ?_;refine AT hcb rfl rfl rdZ rfl rfl ?_;rintro _ rfl;refine Adb ?_;refine Aa ?_;refine CQ ?_; rintro _ _ ⟨b,rfl,rfl⟩;refine Acm ?_;refine CQ ?_; rintro _ _ ⟨b,rfl,rfl⟩;refine BC ?_; rintro _ _ ⟨rfl,rfl⟩;refine Adi ?_;refine AB ?_
 revert b; intro b9
 revert b; intro b8
 refine BI (points_spec (.slice qa a.length ca) (.slice qb b.length cb) rfl rfl) rfl rfl Takes.nil (fun τ hτ=>by simp at hτ) rfl rfl ?_
 rintro _ _ ⟨b1,b2,rfl,rfl⟩;refine AS (ρ:=sng b1 _) takeZ ?_;refine AS (ρ:=sng b2 _) takeZ ?_;refine AE ?_;refine A5 ?_
 refine EL (gf:=264) (cap:=[.pointer (some ⟨b1,0,none⟩),.pointer (some ⟨b2,0,none⟩)]) (ps:=[24,25]) (X:=Value × Bool × PH) rfl Tryz.func264 rfl rfl
  (hpts b1 b2) ?_
  (fun i x=>x.2.1=oddB (mcomb f ((mrg (tog a) false (tog b) false).take i) []).length∧OwnS 77 2 x.1 (spans (mcomb f ((mrg (tog a) false (tog b) false).take i) [])).length ((spans (mcomb f ((mrg (tog a) false (tog b) false).take i) [])).flatMap encS) x.2.2)
  (fun x=>[sng b8 (.cells #[x.1] 25 (0,0)),sng b9 (.cells #[.bool x.2.1] 4 (0,0)),x.2.2]) (fun _ _=>False) (.slice none 0 0,false,emp) rfl takesZ ⟨rfl,OwnS.nil _ _⟩ ?_ ?_ ?_
 ·intro σ' hσ
  simp only [List.mem_cons,List.not_mem_nil,or_false] at hσ ⊢
  rcases hσ with h|h|h|h <;> simp [h]
 ·rintro lo r i ⟨u,ins,σ⟩ vs hvs ⟨hins,hO⟩ hps has hbd hst hpe hfr
  obtain ⟨st,pe,fnn,tm,prm,asg,bdy,df⟩:=r
  simp only at hps has hbd hst hpe hfr;subst hps has hbd hst hpe;rw [List.getElem?_map] at hvs
  obtain ⟨⟨t,x,y⟩,hc,rfl⟩:=Option.map_eq_some_iff.1 hvs
  have hnx:=mcomb_next f hc []
  have hOl:=mcomb_len f ((mrg (tog a) false (tog b) false).take i) []
  have hti:((mrg (tog a) false (tog b) false).take i).length≤(mrg (tog a) false (tog b) false).length:=by rw [List.length_take]; omega
  dsimp only at hins hO
  have hsl:=spans_len (mcomb f ((mrg (tog a) false (tog b) false).take i) [])
  simp only [hnx]
  generalize mcomb f ((mrg (tog a) false (tog b) false).take i) []=O at hins hO hOl hsl
  simp only [List.length_nil] at hOl
  have hone:∀ z n (xs:List Value) (χ:PH),OwnS 77 2 z n xs χ→z.oneCell'=true:=fun z n xs χ h=>by obtain ⟨_,_,rfl⟩:=h.form; rfl
  have hu1:=hone _ _ _ _ hO
  have hfxy:=hfn x y
  have hm1:mcomb1 f O (t,x,y)=if f x y=oddB O.length then O else O ++ [t]:=rfl
  refine yield_spec hfr rfl (by intro p hp; simp at hp; omega) putiZ (fun N' β'=>?_)
  dsimp only
  refine Aal ?_;refine AA ?_;refine A4 ?_; rintro _ _ ⟨b,rfl,rfl⟩;refine AY ?_; rintro _ _ ⟨rfl,rfl⟩;refine AE ?_;refine DO rfl rfl ?_;refine D4 takeZ rfl ?_
  revert b; intro bx
  refine A5 ?_;refine Ac ?_
  focus ((refine BT (E7 rfl rfl rfl rfl (by decide)) rfl rfl rfl ?_))
  refine AF ?_
  focus ((refine BT (F7 rfl rfl rfl rfl (by decide)) rfl rfl rfl ?_))
  refine AF ?_;refine AT hfxy rfl rfl rdZ rfl rfl ?_;rintro _ rfl
  cases hfv:f x y with
  | true =>
   cases ins with
   | true =>
    rw [hfv,← hins,if_pos rfl] at hm1;refine Aaa ?_;refine Aa2 ?_;refine Aar ?_;refine AF ?_;refine BE ?_;refine Abm ?_;refine AM rfl ?_;refine Aco ?_;refine AB ?_;refine AI rfl rfl rfl ?_;refine Ac2 ?_;refine Aaf ?_;refine Abb ?_;refine AB ?_;refine BC ?_; rintro _ _ ⟨rfl,rfl⟩;refine AE ?_;refine BH ?_
    exact CV takeZ rsubZ selZ ⟨(u,true,σ),.inl ⟨rfl,⟨by rw [hm1]; exact hins,by rw [hm1]; exact hO⟩,rfl⟩⟩
   | false =>
    rw [hfv,← hins,if_neg (by simp)] at hm1
    have hsp:=spans_even t hins.symm
    refine Aaa ?_;refine Aa2 ?_;refine Aar ?_;refine AF ?_;refine BE ?_;refine Abm ?_;refine AW rfl ?_;refine AA ?_;refine AF ?_;refine AB ?_;refine B6 ?_;refine BN ?_; rintro _ _ ⟨b,rfl,rfl⟩
    refine BJ (CU (by_:=16) (s:=2) (news:=[int t,int 0]) rfl rfl rfl rfl rfl rfl rfl hO takeZ (cells_own memZ) rfl oneZ (by omega) (by simp only [maxLen]; omega) (by omega)) rfl rfl rfl ?_
    rintro u1 _ ⟨σ1,hO1,rfl⟩
    have hu2:=hone _ _ _ _ hO1
    refine BC ?_; rintro _ _ ⟨rfl,rfl⟩;refine AE ?_;refine Abb ?_;refine AB ?_;refine BC ?_; rintro _ _ ⟨rfl,rfl⟩;refine AE ?_;refine BH ?_;refine CV takeZ rsubZ selZ ⟨(u1,true,σ1),.inl ⟨rfl,⟨?_,?_⟩,rfl⟩⟩
    ·dsimp only
     rw [hm1,List.length_append,List.length_singleton,oddB_succ,← hins]; rfl
    ·dsimp only
     rw [hm1,hsp,List.length_append,List.flatMap_append];exact hO1
  | false =>
   cases ins with
   | false =>
    rw [hfv,← hins,if_pos rfl] at hm1;refine Aaa ?_;refine Aa2 ?_;refine Aar ?_;refine Aac ?_;refine AP ?_;refine Ab9 ?_;refine Aco ?_;refine AB ?_;refine AF ?_;refine Abm ?_;refine Aaf ?_;refine Abb ?_;refine AB ?_;refine BC ?_; rintro _ _ ⟨rfl,rfl⟩;refine AE ?_;refine BH ?_
    exact CV takeZ rsubZ selZ ⟨(u,false,σ),.inl ⟨rfl,⟨by rw [hm1]; exact hins,by rw [hm1]; exact hO⟩,rfl⟩⟩
   | true =>
    rw [hfv,← hins,if_neg (by simp)] at hm1
    obtain ⟨l,c,e1,e2⟩:=spans_odd t hins.symm
    rw [e1] at hO hsl
    have hll:(l ++ [(c,(0:Int))]).length=l.length+1:=by simp
    obtain ⟨bu,cu,rfl⟩:=hO.formP (by omega)
    have hget:(l ++ [(c,(0:Int))])[(l ++ [(c,(0:Int))]).length-1]?=some (c,0):=by simp
    refine Aaa ?_;refine Aa2 ?_;refine Aar ?_;refine Aac ?_;refine AP ?_;refine Ab9 ?_;refine Aco ?_;refine AB ?_;refine AF ?_;refine Abm ?_;refine AW rfl ?_;refine AA ?_;refine AF ?_;refine AF ?_;refine BD ?_;refine CK ?_;refine AB ?_;refine CA ?_;refine DQ ?_
    refine B4 (EP encS_len (s:=2) ((l ++ [(c,(0:Int))]).length-1) 1 (c,t) hO rfl (by simp; rfl) (by decide) hget rfl rfl rfl rfl takeZ) rfl rfl ?_
    rintro _ _ ⟨rfl,σ1,hO1,rfl⟩;refine AE ?_;refine Abb ?_;refine AB ?_;refine BC ?_; rintro _ _ ⟨rfl,rfl⟩;refine AE ?_;refine BH ?_;refine CV takeZ rsubZ selZ ⟨(.slice (some ⟨bu,0,none⟩) (l ++ [(c,(0:Int))]).length cu,false,σ1),.inl ⟨rfl,⟨?_,?_⟩,rfl⟩⟩
    ·dsimp only
     rw [hm1,List.length_append,List.length_singleton,oddB_succ,← hins]; rfl
    ·dsimp only
     rw [hm1,e2]
     have es:(l ++ [(c,(0:Int))]).set ((l ++ [(c,(0:Int))]).length-1) (c,t)=l ++ [(c,t)]:=by simp
     rw [es] at hO1
     simpa using hO1
 ·rintro b2' ⟨u,ins,σ⟩ ⟨hins,hO⟩
  rw [List.length_map,List.take_length] at hins hO
  dsimp only at hins hO
  have hO2:OwnS 77 2 u (combI f a b).length ((combI f a b).flatMap encS) σ:=hO
  obtain ⟨p,c,rfl⟩:=hO2.form
  clear hO
  generalize combI f a b=out at hO2 hcl
  refine BH ?_;refine AD ?_;refine Ac ?_;refine BD ?_;refine Adg ?_;refine Ac ?_;refine Aaj ?_;exact EM (Marks.cons .here .nil) (res2 rfl rfl rfl) rsubZ selZ ⟨σ,⟨_,rfl,hO2⟩,rfl⟩
 ·rintro _ _ _ h; exact h.elim
theorem trimR_spec (k:Nat) (hk:k≤9223372036854775807):Ans Tryz.prog (fv 274) [str (List.replicate k 0),.int .u8 0] [] (fun r=>r=str []):=by
 refine spec_in (cap:=[]) Tryz.func274 rfl rfl Tryz.ntmps274 rfl envZ (fun N β=>?_)
 refine Aal ?_;refine Aa2 ?_
 refine BU [1,4] k (fun j=>j≤k) (fun j=>[(0,str (List.replicate j 0))]) (fun _=>[]) (fun j=>j) pickZ (Nat.le_refl _) covZ selZ ?_
 rintro j hj
 have hl:(List.replicate j (0:UInt8)).length=j:=List.length_replicate
 by_cases h0:j=0
 ·subst h0
  refine Aah ?_
  focus ((refine' BT _ rfl rfl rfl _; rotate_left; (apply B0; exact rfl; exact rfl)))
  refine BO ?_;refine Adj ?_;refine AI rfl rfl rfl ?_;refine AP ?_;refine Adh ?_;refine Abi ?_;exact A9 ⟨rfl,rfl⟩
 ·have hb:(List.replicate j (0:UInt8))[(List.replicate j (0:UInt8)).length-1]?=some 0:=by rw [hl,List.getElem?_replicate,if_pos (by omega)]
  have ht:(List.replicate j (0:UInt8)).take ((List.replicate j (0:UInt8)).length-1)=List.replicate (j-1) 0:=by rw [hl,List.take_replicate]; congr 1; omega
  refine Aah ?_
  focus ((refine' BT _ rfl rfl rfl _; rotate_left; (apply B0; exact rfl; exact rfl)))
  refine DA ?_;refine Abq ?_
  focus ((refine' BT _ rfl rfl rfl _; rotate_left; (apply B0; exact rfl; exact rfl)))
  refine CK ?_
  focus ((refine BT (ER (i:=(List.replicate j (0:UInt8)).length-1) rfl rfl rfl hb) rfl rfl rfl ?_))
  refine AB ?_;refine CN ?_;refine Abk ?_;refine AN ?_;refine A5 ?_;refine Acp ?_
  focus ((refine' BT _ rfl rfl rfl _; rotate_left; (apply B0; exact rfl; exact rfl)))
  refine CK ?_
  focus ((refine BT (q_cutH (j:=(List.replicate j (0:UInt8)).length-1) rfl rfl rfl (by omega)) rfl rfl rfl ?_))
  refine Aaa ?_;refine BH ?_;rw [ht]
  skip
  exact BG (j-1) (by omega) (by omega) covZ selZ
theorem trimL_spec:Ans Tryz.prog (fv 273) [str [],.int .u8 0] [] (fun r=>r=str []):=by
 refine spec_in (cap:=[]) Tryz.func273 rfl rfl Tryz.ntmps273 rfl envZ (fun N β=>?_)
 refine Aal ?_;refine Aa2 ?_
 refine BU [0,1,4] () (fun _=>True) (fun _=>[]) (fun _=>[]) (fun _=>0) pickZ trivial covZ selZ ?_
 rintro _ _
 have hl:([]:List UInt8).length=0:=rfl
 refine Aah ?_
 focus ((refine' BT _ rfl rfl rfl _; rotate_left; (apply B0; exact rfl; exact rfl)))
 refine BO ?_;refine Aa6 ?_;refine AP ?_;refine Adh ?_;refine Abi ?_;exact A9 ⟨rfl,rfl⟩
theorem trim_spec (k:Nat) (hk:k≤9223372036854775807):Ans Tryz.prog (fv 236) [str (List.replicate k 0),str [0]] [] (fun r=>r=str []):=by
 have h1:=trimR_spec k hk
 have h2:=trimL_spec
 have hl1:([0]:List UInt8).length=1:=rfl
 have e0:(([0]:List UInt8) == [])=false:=rfl
 refine spec_in (cap:=[]) Tryz.func236 rfl rfl Tryz.ntmps236 rfl envZ (fun N β=>?_)
 by_cases h0:k=0
 ·subst h0
  refine Ab6 ?_;refine BT (E8 rfl rfl) rfl rfl rfl ?_;refine Aas ?_;refine Abk ?_;refine Abi ?_;exact A9 ⟨rfl,rfl⟩
 ·have e1:(List.replicate k (0:UInt8) == [])=false:=by
   cases k with
   | zero=>exact absurd rfl h0
   | succ k=>rfl
  refine Ab6 ?_;refine BT (E8 rfl rfl) rfl rfl rfl ?_;rw [e1];refine Aao ?_
  focus ((refine' BT _ rfl rfl rfl _; rotate_left; (apply E8; exact rfl; exact rfl)))
  refine Aa4 ?_;refine Aah ?_
  focus ((refine' BT _ rfl rfl rfl _; rotate_left; (apply B0; exact rfl; exact rfl)))
  refine CN ?_;refine Aao ?_
  focus ((refine' BT _ rfl rfl rfl _; rotate_left; (apply ER (i:=0); exact rfl; exact rfl; exact rfl; exact rfl)))
  refine B7 ?_;refine Abk ?_;refine AD ?_
  refine BB (.q 0 (.q 1 (.q 2 (.q 4 (.q 5 (.l 3 .e (.l 6 .e (.q 7 .nil)))))))) [] rfl (by kernel_rfl) Sel.nil ?_
  refine Abp ?_
  focus ((refine' CJ rfl _ rfl rfl rfl rfl _; rotate_left; (apply ER (i:=0); exact rfl; exact rfl; exact rfl; exact rfl)))
  refine AL ?_
  focus ((refine' CJ rfl _ rfl rfl rfl rfl _; rotate_left; (apply ER (i:=0); exact rfl; exact rfl; exact rfl; exact rfl)))
  refine BQ (CI rfl h1 rfl rfl rdZ rfl rfl ?_);rintro _ rfl
  skip
  refine BQ (CI rfl h2 rfl rfl rdZ rfl rfl ?_);rintro _ rfl;refine Aaq ?_
  skip
  exact A9 ⟨rfl,rfl⟩
theorem rcvEmpty_spec (b1 b3:Nat) (se tot:Int) (u:Value) (dat:List UInt8) (x y:Nat) (hxy:x≤y) (hy:y≤dat.length) (hd:dat.length≤1999) (hz:(dat.drop x).take (y-x)=List.replicate (y-x) 0) :
  Ans Tryz.prog (.func (.func 235) #[] #[.pointer (some ⟨b1,0,none⟩),.pointer (some ⟨b3,0,none⟩)]) [int (y:Int)] [sng b1 (.cells #[int se,int tot,u,str dat] 99 (0,0)),sng b3 (.cells #[int (x:Int)] 3 (0,0))] (fun r=>r=.bool true):=by
 have ht:=trim_spec (y-x) (by omega)
 have bx195_3:=rdB b1 99 [int se,int tot,u,str dat]
 have f3:=rdC bx195_3 3
 have bx196_3:=rdB b3 3 [int (x:Int)]
 have g0:=rdC bx196_3 0
 refine spec_in (cap:=[.pointer (some ⟨b1,0,none⟩),.pointer (some ⟨b3,0,none⟩)]) Tryz.func235 rfl rfl Tryz.ntmps235 rfl envZ (fun N β=>?_)
 refine Aal ?_;refine Aam ?_;refine AF ?_;refine AB ?_;refine BT (FO (i:=x) (j:=y) rfl rfl rfl rfl hxy hy) rfl rfl rfl ?_;rw [hz];refine AT ht rfl rfl rdZ rfl rfl ?_;rintro _ rfl;refine BT (E8 rfl rfl) rfl rfl rfl ?_;refine Aaa ?_;exact A9 ⟨rfl,rfl⟩
theorem rcvChk_spec {ρ:PH} {se:Int} {d:List UInt8} {K:Iv} {p:Option Addr} {c:Nat} (hv:SpAt ρ (.slice p K.length c) K) (hK:InI d.length K) (hn1:1≤d.length) (hn:d.length≤990) (hse:0≤se∧se≤1099511627776) :
  Ans Tryz.prog (fv 209) [.agg #[int se,int (totR d K),.slice p K.length c,str (datR d K)]] [ρ] (fun r=>r=int 0):=by
 have hKl:=hK.len (by omega)
 have hc:=ivCheck_spec ρ _ K hv (by omega)
 rw [hK.chk (by omega) (by omega)] at hc
 obtain ⟨h6,h7⟩:=hse
 obtain ⟨q,cc,e0,hr⟩:=hv.val encS_len
 simp only [Value.slice.injEq] at e0
 obtain ⟨rfl,_,rfl⟩:=e0
 by_cases hk0:K=[]
 ·subst hk0
  have e1:totR d [] = -1:=rfl
  have e2:datR d []=[]:=rfl
  rw [e1,e2]
  have hl0:([]:Iv).length=0:=rfl
  have hl1:([]:List UInt8).length=0:=rfl
  have hemp:=fun b1 b3=>rcvEmpty_spec b1 b3 se (-1) (.slice p ([]:Iv).length c) [] 0 0 (Nat.le_refl _) (Nat.zero_le _) (by omega) rfl
  refine spec_in (cap:=[]) Tryz.func209 rfl rfl Tryz.ntmps209 rfl envZ (fun N β=>?_)
  refine Aa ?_;refine BJ (BL rfl) rfl rfl rfl ?_;rintro _ _ ⟨b1,rfl,rfl⟩;refine AS (ρ:=sng b1 _) takeZ ?_
  have cr:=rdB b1 99 [int se,int (-1),.slice p ([]:Iv).length c,str []]
  have cr0:=rdC cr 0
  have cr1:=rdC cr 1
  have cr2:=rdC cr 2
  have cr3:=rdC cr 3
  refine Adr ?_;refine BK ?_;refine Aak ?_;refine Ab1 ?_;refine BM ?_;refine Adj ?_;refine Aac ?_;refine AP ?_;refine Aa4 ?_;refine Abg ?_;refine AT hc rfl rfl rdZ rfl rfl ?_;rintro _ rfl;refine BM ?_;refine Aak ?_;refine BD ?_;refine CN ?_;refine Aad ?_;refine CN ?_
  focus ((refine' BT _ rfl rfl rfl _; rotate_left; (apply FF; exact rfl; exact rfl; exact rfl)))
  refine Aa4 ?_;refine Acv ?_
  refine BB P4Z [] rfl (by kernel_rfl) Sel.nil ?_
  refine Aan ?_;refine C1 ?_;refine D0 ?_;refine Acx ?_;refine Ace ?_;refine Abd ?_;refine CB ?_;refine Ab0 ?_;refine Abg ?_
  focus ((refine' BT _ rfl rfl rfl _; rotate_left; (apply B0; exact rfl; exact rfl)))
  refine Aad ?_;refine EZ ?_;refine Aba ?_;refine Aa ?_;refine CQ ?_; rintro _ _ ⟨b,rfl,rfl⟩;refine BC ?_; rintro _ _ ⟨rfl,rfl⟩;refine Acm ?_;refine BZ ?_;refine Adr ?_;refine Aby ?_
  revert b; intro b3
  refine BU [0,1,3,4,79,80] () (fun _=>True) (fun _=>[(81,int 0)]) (fun _=>[sng b3 (.cells #[int ((0:Nat):Int)] 3 (0,0))]) (fun _=>0) pickZ trivial covZ selZ ?_
  rintro _ _;refine Ab5 ?_;refine Aah ?_;refine Aad ?_
  focus ((refine' BT _ rfl rfl rfl _; rotate_left; (apply B0; exact rfl; exact rfl)))
  refine AT (hemp b1 b3) rfl rfl rdZ rfl rfl ?_;rintro _ rfl;refine Abr ?_;refine Aal ?_;exact A9 ⟨rfl,rfl⟩
 ·have e1:totR d K=(d.length:Int):=if_neg hk0
  have e2:datR d K=maskD d K:=if_neg hk0
  rw [e1,e2]
  have hl0:0<K.length:=List.length_pos_iff.2 hk0
  have hl1:=maskD_len d K
  have hx:=List.getElem?_eq_getElem (show 0<K.length by omega)
  have hy:=List.getElem?_eq_getElem (show K.length-1<K.length by omega)
  have hxa:=hK.at _ (List.getElem_mem (show 0<K.length by omega))
  have hya:=hK.at _ (List.getElem_mem (show K.length-1<K.length by omega))
  obtain ⟨b4,o4,rfl,hrd,x0,x1⟩:=spRow hr hx
  obtain ⟨b5,o5,e5,hrd2,y0,y1⟩:=spRow hr hy
  simp only [Option.some.injEq,Addr.mk.injEq,and_true] at e5
  obtain ⟨rfl,rfl⟩:=e5
  generalize K[0]=xf at hrd x0 x1 hxa
  generalize K[K.length-1]=xl at hrd2 y0 y1 hya
  have hemp:=fun b1 b3 x y=>rcvEmpty_spec b1 b3 se (d.length:Int) (.slice (some ⟨b4,o4,none⟩) K.length c) (maskD d K) x y
  generalize hdat:maskD d K=dat at hl1 hemp
  refine spec_in (cap:=[]) Tryz.func209 rfl rfl Tryz.ntmps209 rfl envZ (fun N β=>?_)
  refine Aa ?_;refine BJ (BL rfl) rfl rfl rfl ?_;rintro _ _ ⟨b1,rfl,rfl⟩;refine AS (ρ:=sng b1 _) takeZ ?_
  have cr:=rdB b1 99 [int se,int (d.length:Int),.slice (some ⟨b4,o4,none⟩) K.length c,str dat]
  have cr0:=rdC cr 0
  have cr1:=rdC cr 1
  have cr2:=rdC cr 2
  have cr3:=rdC cr 3
  refine Adr ?_;refine BK ?_;refine Aak ?_;refine Ab1 ?_;refine C8 ?_;refine Aak ?_;refine BK ?_;refine Aak ?_;refine BO ?_;refine AP ?_;refine AV ?_;refine Aa4 ?_;refine Abg ?_;refine AT hc rfl rfl rdZ rfl rfl ?_;rintro _ rfl;refine BM ?_;refine Aak ?_;refine BD ?_;refine B9 ?_;refine Aad ?_;refine B9 ?_
  focus ((refine' BT _ rfl rfl rfl _; rotate_left; (apply FF; exact rfl; exact rfl; exact rfl)))
  refine Aa4 ?_;refine Acv ?_
  refine BB P4Z [] rfl (by kernel_rfl) Sel.nil ?_
  refine Aan ?_;refine C1 ?_;refine EW ?_;refine Ab2 ?_;refine CE ?_;refine Ac1 ?_;refine DR ?_;refine Ab2 ?_;refine Aan ?_;refine C1 ?_;refine Adf ?_;refine Acw ?_;refine Aan ?_;refine D0 ?_;refine CB ?_;refine BY ?_;refine Ab0 ?_;refine Abg ?_
  focus ((refine' BT _ rfl rfl rfl _; rotate_left; (apply B0; exact rfl; exact rfl)))
  refine Aad ?_;refine EZ ?_;refine Aba ?_;refine Aa ?_;refine CQ ?_; rintro _ _ ⟨b,rfl,rfl⟩;refine BC ?_; rintro _ _ ⟨rfl,rfl⟩;refine Acm ?_;refine BZ ?_;refine Adr ?_;refine Aby ?_
  revert b; intro b3
  refine BU [0,1,3,4,79,80] (X:=Nat × Nat) (0,0) (fun z=>z.1≤K.length∧z.2≤d.length∧(∀ y∈K.take z.1,y.2≤(z.2:Int))∧(∀ y∈K.drop z.1,(z.2:Int)≤y.1)) (fun z=>[(81,int (z.1:Int))]) (fun z=>[sng b3 (.cells #[int (z.2:Int)] 3 (0,0))]) (fun z=>K.length-z.1) pickZ ⟨Nat.zero_le _,Nat.zero_le _,by simp,fun y hy=>(hK.at y (by simpa using hy)).1⟩ covZ selZ ?_
  rintro ⟨k,x⟩ ⟨hk,hxn,hI1,hI2⟩
  dsimp only at hk hxn hI1 hI2 ⊢
  by_cases hlt:k<K.length
  ·have hkx:=List.getElem?_eq_getElem hlt
   have hka:=hK.at _ (List.getElem_mem hlt)
   obtain ⟨b7,o7,e7,hrd7,z0,z1⟩:=spRow hr hkx
   simp only [Option.some.injEq,Addr.mk.injEq,and_true] at e7
   obtain ⟨rfl,rfl⟩:=e7
   have hgm:=gap_mem hK.1 hkx
   have hdk:K.drop k=K[k]::K.drop (k+1):=List.drop_eq_getElem_cons hlt
   have hnd:NormI (K[k]::K.drop (k+1)):=by rw [← hdk]; exact ⟨fun y hy=>hK.1.1 y (List.mem_of_mem_drop hy),hK.1.2.sublist (List.drop_sublist _ _)⟩
   have hix:=hI2 K[k] (by rw [hdk]; exact List.mem_cons_self)
   have htk:K.take (k+1)=K.take k ++ [K[k]]:=by rw [List.take_add_one,hkx]; rfl
   generalize K[k]=y at hkx hka hrd7 z0 z1 hgm hdk hnd hix htk
   obtain ⟨aa,ha⟩:∃ a:Nat,y.1=(a:Int):=⟨y.1.toNat,by omega⟩
   obtain ⟨ee,he⟩:∃ a:Nat,y.2=(a:Int):=⟨y.2.toNat,by omega⟩
   have hz:=maskD_gap (d:=d) (K:=K) (x:=x) (y:=aa) (by omega) (by omega) (fun t h1 h2=>hgm t (fun w hw=>by have:=hI1 w hw; omega) (by omega))
   rw [hdat] at hz
   have hem:=fun b1 b3=>hemp b1 b3 x aa (by omega) (by omega) (by omega) hz
   rw [ha,he] at hrd7;rw [ha] at z0;rw [he] at z1;refine Ade ?_;refine A4 ?_; rintro _ _ ⟨b,rfl,rfl⟩;refine AY ?_; rintro _ _ ⟨rfl,rfl⟩;refine Adi ?_;refine Aad ?_
   revert b; intro b6
   refine AS (ρ:=sng b6 _) takeZ ?_
   have bx580_3:=rdB b6 77 [int (aa:Int),int (ee:Int)]
   have m0:=rdC bx580_3 0
   have m1:=rdC bx580_3 1
   skip
   refine AT (hem b1 b3) rfl rfl rdZ rfl rfl ?_;rintro _ rfl;refine Abr ?_;refine AA ?_;refine Aad ?_;refine BC ?_; rintro _ _ ⟨rfl,rfl⟩;refine Adp ?_;refine CR ?_
   refine BG (k+1,ee) ⟨by dsimp only; omega,by dsimp only; omega,fun w hw=>?_,fun w hw=>?_⟩ (by dsimp only; omega) covZ selZ
   ·dsimp only at hw ⊢
    rw [htk] at hw
    rcases List.mem_append.1 hw with hw|hw
    ·have:=hI1 w hw; omega
    ·simp at hw; subst hw; omega
   ·dsimp only at hw ⊢
    have:=hnd.hd.2 w hw
    omega
  ·have hke:k=K.length:=by omega
   subst hke;rw [List.take_length] at hI1
   have hz:=maskD_gap (d:=d) (K:=K) (x:=x) (y:=d.length) (by omega) (Nat.le_refl _) (fun t h1 h2=>by
    cases hm:memI K t with
    | false=>rfl
    | true =>
     obtain ⟨w,hw,g1,g2⟩:=memI_iff.1 hm
     have:=hI1 w hw
     omega)
   rw [hdat] at hz
   have hem:=fun b1 b3=>hemp b1 b3 x d.length (by omega) (by omega) (by omega) hz
   refine Ab5 ?_;refine Aah ?_;refine Aad ?_
   focus ((refine' BT _ rfl rfl rfl _; rotate_left; (apply B0; exact rfl; exact rfl)))
   rw [hl1];refine AT (hem b1 b3) rfl rfl rdZ rfl rfl ?_;rintro _ rfl;refine Abr ?_;refine Aal ?_;exact A9 ⟨rfl,rfl⟩
theorem snOnes (l:Iv):∀ u∈l.flatMap encS,u.oneCell'=true:=by
 intro u hu
 obtain ⟨x,_,hx⟩:=List.mem_flatMap.1 hu
 simp only [encS,List.mem_cons,List.not_mem_nil,or_false] at hx
 rcases hx with rfl|rfl <;> rfl
theorem cloneSnSp_spec (ρ:PH) (v:Value) (l:List (Int × Int)) (hv:SlE encS 2 ρ v l) (hl:l.length≤1000000) :
  Makes Tryz.prog (fv 213) [v] [ρ] (fun r σ=>OwnS 77 2 r l.length (l.flatMap encS) σ):=by
 have hv2:=hv
 obtain ⟨q,c,rfl,hr⟩:=hv.val encS_len
 refine spec_in (cap:=[]) Tryz.func213 rfl rfl Tryz.ntmps213 rfl envZ (fun N β=>?_)
 cases q with
 | none =>
  have hnil:l=[]:=by
   cases l with
   | nil=>rfl
   | cons a l =>
    obtain ⟨b,o,e,_⟩:=hr 0 a rfl
    simp at e
  subst hnil;refine CG ?_;refine Ab6 ?_
  focus ((refine' BT _ rfl rfl rfl _; rotate_left; (apply E4; exact rfl; exact rfl; exact rfl)))
  refine Acd ?_;exact AK (res1 rfl rfl) rsubZ selZ ⟨emp,OwnS.nil _ _,rfl⟩
 | some ad =>
  refine Ab6 ?_
  focus ((refine' BT _ rfl rfl rfl _; rotate_left; (apply E5; exact rfl; exact rfl; exact rfl)))
  refine Aag ?_;refine Aa ?_;refine BN ?_; rintro _ _ ⟨b,rfl,rfl⟩;refine AB ?_
  refine BJ (DP (by_:=16) (s:=2) (σ:=ρ) (news:=l.flatMap encS) (m:=l.length) rfl rfl rfl rfl rfl rfl rfl (OwnS.empty (b:=b)) takeZ hv2 (fun b o h=>cellsR h memZ) (snOnes l) (by simp only [maxLen]; omega) (by omega)) rfl rfl rfl ?_
  rintro r1 _ ⟨σ,hO,rfl⟩;refine Aaa ?_;refine AK (res1 rfl rfl) rsubZ selZ ⟨σ,?_,rfl⟩
  simpa using hO
theorem snOr_spec (x y:Bool):Ans Tryz.prog (fv 280) [.bool x,.bool y] [] (fun r=>r=.bool (x || y)):=by
 refine spec_in (cap:=[]) Tryz.func280 rfl rfl Tryz.ntmps280 rfl envZ (fun N β=>?_)
 cases x <;> cases y
 all_goals
  repeat' (first
   | (refine AB ?_)
   | (refine AC ?_)
   | (refine AV ?_)
   | (refine AP ?_)
   | (refine AD ?_)
   | (refine AA ?_)
   | (refine AE ?_)
   | (refine AI rfl rfl rfl ?_)
   | fail)
  exact A9 ⟨rfl,rfl⟩
theorem snAndN_spec (x y:Bool):Ans Tryz.prog (fv 205) [.bool x,.bool y] [] (fun r=>r=.bool (x && !y)):=by
 refine spec_in (cap:=[]) Tryz.func205 rfl rfl Tryz.ntmps205 rfl envZ (fun N β=>?_)
 cases x <;> cases y
 all_goals
  repeat' (first
   | (refine AB ?_)
   | (refine AC ?_)
   | (refine AV ?_)
   | (refine AP ?_)
   | (refine BE ?_)
   | (refine AD ?_)
   | (refine AA ?_)
   | (refine AE ?_)
   | (refine AI rfl rfl rfl ?_)
   | fail)
  exact A9 ⟨rfl,rfl⟩
theorem snUnion_spec (ρ τ:PH) (va vb:Value) (a b:Iv) (ha:SpAt ρ va a) (hb:SpAt τ vb b) (h0a:chkI a=0) (h0b:chkI b=0) (hlen:a.length+b.length≤1000) :
  Makes Tryz.prog (fv 241) [va,vb] [ρ,τ] (fun r σ=>∃ p c,r=.tuple #[.slice p (combI (fun x y=>x || y) a b).length c,int 0]∧OwnS 77 2 (.slice p (combI (fun x y=>x || y) a b).length c) (combI (fun x y=>x || y) a b).length ((combI (fun x y=>x || y) a b).flatMap encS) σ):=by
 have h:=ivCombine_spec ρ τ va vb 280 a b (fun x y=>x || y) ha hb h0a h0b hlen rfl snOr_spec
 obtain ⟨qa,ca,rfl,_⟩:=ha.val encS_len
 obtain ⟨qb,cb,rfl,_⟩:=hb.val encS_len
 refine spec_in (cap:=[]) Tryz.func241 rfl rfl Tryz.ntmps241 rfl envZ (fun N β=>?_)
 refine Acn ?_;refine Aar ?_;refine B8 h rfl rfl rdZ rfl rfl ?_;rintro _ σ ⟨u,rfl,hO⟩
 obtain ⟨p,c,rfl⟩:=hO.form
 refine Aax ?_;exact AK (res2 rfl rfl rfl) rsubZ selZ ⟨σ,⟨p,c,rfl,hO⟩,rfl⟩
theorem snMinus_spec (ρ τ:PH) (va vb:Value) (a b:Iv) (ha:SpAt ρ va a) (hb:SpAt τ vb b) (h0a:chkI a=0) (h0b:chkI b=0) (hlen:a.length+b.length≤1000) :
  Makes Tryz.prog (fv 173) [va,vb] [ρ,τ] (fun r σ=>∃ p c,r=.tuple #[.slice p (combI (fun x y=>x && !y) a b).length c,int 0]∧OwnS 77 2 (.slice p (combI (fun x y=>x && !y) a b).length c) (combI (fun x y=>x && !y) a b).length ((combI (fun x y=>x && !y) a b).flatMap encS) σ):=by
 have h:=ivCombine_spec ρ τ va vb 205 a b (fun x y=>x && !y) ha hb h0a h0b hlen rfl snAndN_spec
 obtain ⟨qa,ca,rfl,_⟩:=ha.val encS_len
 obtain ⟨qb,cb,rfl,_⟩:=hb.val encS_len
 refine spec_in (cap:=[]) Tryz.func173 rfl rfl Tryz.ntmps173 rfl envZ (fun N β=>?_)
 refine Acn ?_;refine Aar ?_;refine B8 h rfl rfl rdZ rfl rfl ?_;rintro _ σ ⟨u,rfl,hO⟩
 obtain ⟨p,c,rfl⟩:=hO.form
 refine Aax ?_;exact AK (res2 rfl rfl rfl) rsubZ selZ ⟨σ,⟨p,c,rfl,hO⟩,rfl⟩
theorem rcvNew_spec:Ans Tryz.prog (fv 51) [int 0] [] (fun r=>r=.tuple #[.agg #[int 0,int (-1),.slice none 0 0,str []],int 0]):=by
 refine spec_in (cap:=[]) Tryz.func51 rfl rfl Tryz.ntmps51 rfl envZ (fun N β=>?_)
 refine Aa ?_;refine A4 ?_; rintro _ _ ⟨b,rfl,rfl⟩;refine Aa8 ?_;refine BK ?_;refine Aao ?_;refine BO ?_;refine Aa4 ?_;refine Aab ?_;refine B6 ?_;refine AY ?_; rintro _ _ ⟨rfl,rfl⟩;refine Aaa ?_;exact AK (resSE (v1:=[int 0,int (-1),.slice none 0 0,str []]) rfl rfl rfl rfl rfl (cells_own memZ)) rsubZ selZ ⟨rfl,rfl⟩
theorem rcvComplete_spec {ρ:PH} {se:Int} {d:List UInt8} {K:Iv} {p:Option Addr} {c:Nat} (hv:SpAt ρ (.slice p K.length c) K) (hK:InI d.length K) (hn1:1≤d.length) (hn:d.length≤990) (hse:0≤se∧se≤1099511627776):Ans Tryz.prog (fv 179) [.agg #[int se,int (totR d K),.slice p K.length c,str (datR d K)]] [ρ] (fun r=>r=.bool (decide (K=[((0:Int),(d.length:Int))]))):=by
 have hc:=rcvChk_spec hv hK hn1 hn hse
 have hKl:=hK.len (by omega)
 obtain ⟨q,cc,e0,hr⟩:=hv.val encS_len
 simp only [Value.slice.injEq] at e0
 obtain ⟨rfl,_,rfl⟩:=e0
 by_cases h1:K.length=1
 rotate_left
 ·rw [decide_eq_false (fun h=>h1 (by rw [h]; rfl))]
  refine spec_in (cap:=[]) Tryz.func179 rfl rfl Tryz.ntmps179 rfl envZ (fun N β=>?_)
  refine Aa ?_;refine CW ?_; rintro _ _ ⟨b,rfl,rfl⟩;refine Ad ?_
  refine BB (.q 0 (.l 1 .e (.q 2 (.q 3 (.q 4 (.q 5 (.q 6 (.q 7 (.q 8 (.q 9 (.q 10 (.q 11 (.q 12 (.q 13 (.q 14 (.q 15 (.q 16 (.q 17 (.q 18 (.q 19 .nil)))))))))))))))))))) [] rfl (by kernel_rfl) selZ ?_
  refine BP ?_;refine BQ (CI rfl hc rfl rfl rdZ rfl rfl ?_);rintro _ rfl;refine ED ?_;refine Ab2 ?_;refine C1 ?_;refine D9 ?_;refine BY ?_;refine Acx ?_;refine CB ?_;refine Aaq ?_
  skip
  exact A9 ⟨rfl,rfl⟩
 obtain ⟨x,rfl⟩:∃ x,K=[x]:=List.length_eq_one_iff.1 h1
 have ht:totR d [x]=(d.length:Int):=rfl
 rw [ht] at hc ⊢
 obtain ⟨b4,o4,rfl,hrd,x0,x1⟩:=spRow hr (i:=0) rfl
 have hcond:decide ([x]=[((0:Int),(d.length:Int))])=decide ([x.1,x.2]=[0,(d.length:Int)]):=by
  rw [decide_eq_decide]
  obtain ⟨x1,x2⟩:=x
  simp
 rw [hcond]
 generalize datR d [x]=dat at hc ⊢
 refine spec_in (cap:=[]) Tryz.func179 rfl rfl Tryz.ntmps179 rfl envZ (fun N β=>?_)
 refine Aa ?_;refine BJ (BL rfl) rfl rfl rfl ?_;rintro _ _ ⟨b1,rfl,rfl⟩;refine AS (ρ:=sng b1 _) takeZ ?_
 have cr:=rdB b1 99 [int se,int (d.length:Int),.slice (some ⟨b4,o4,none⟩) [x].length c,str dat]
 have cr0:=rdC cr 0
 have cr1:=rdC cr 1
 have cr2:=rdC cr 2
 have cr3:=rdC cr 3
 refine Ad ?_
 refine BB (.q 0 (.l 1 .e (.q 2 (.q 3 (.q 4 (.q 5 (.q 6 (.q 7 (.q 8 (.q 9 (.q 10 (.q 11 (.q 12 (.q 13 (.q 14 (.q 15 (.q 16 (.q 17 (.q 18 (.q 19 .nil)))))))))))))))))))) [] rfl (by kernel_rfl) selZ ?_
 refine BP ?_;refine BQ (CI rfl hc rfl rfl rdZ rfl rfl ?_);rintro _ rfl;refine ED ?_;refine Ab2 ?_;refine C1 ?_;refine ED ?_;refine BY ?_;refine Ab2 ?_;refine D8 ?_;refine BP ?_;refine Aan ?_;refine C6 ?_
 focus ((refine' CJ rfl _ rfl rfl rfl rfl _; rotate_left; (apply q_eqS [x.1,x.2] [0,(d.length:Int)] (n:=2); exact rfl; exact rfl; kernel_rfl; kernel_rfl; kernel_rfl; exact rfl; exact rfl)))
 refine BY ?_;refine Aaq ?_
 skip
 exact A9 ⟨rfl,rfl⟩
end Go.Proofs.YtekcielcagdcmaaGreatDoor
namespace Go.Flow
def plFrom:Nat→List Arc→List Lk
  | _,[]=>[]
  | i,a::l=>⟨i,a.f.toNat,a.t.toNat⟩::plFrom (i+1) l
def plinks (l:List Arc):List Lk:=plFrom 0 l
def rmP (rest:List Int) (k:Nat):Int:=rest.getD k 0
def subP (room:Int) (rest:List Int) (x:Lk):List Int:=rest.set x.k (rest.getD x.k 0-room)
def subAll (room:Int) (rest:List Int) (p:List Lk):List Int:=p.foldl (subP room) rest
abbrev pE (l:List Arc) (fl:List Int):Lk→Prop:=opn (plinks l) (rmP fl)
abbrev pP (l:List Arc) (fl:List Int) (D:List Int) (s:Nat):List Lk:=pathD (nxt (plinks l) (rmP fl) D) D s
abbrev pRoom (l:List Arc) (fl:List Int) (D:List Int) (s:Nat):Int:=leastR (rmP fl) (pP l fl D s)
abbrev pNext (l:List Arc) (fl:List Int) (D:List Int) (s:Nat):List Int:=subAll (pRoom l fl D s) fl (pP l fl D s)
section
variable {n s t:Nat} {l:List Arc}
end
inductive RunP (n:Nat) (l:List Arc) (s t:Nat):List Int→List (List Lk × Int)→List Int→Prop
  | done {fl D:List Int}:IsDist n t (pE l fl) D→D.getD s 0<0→RunP n l s t fl [] fl
  | step {fl D r:List Int} {ps:List (List Lk × Int)}:IsDist n t (pE l fl) D→0≤D.getD s 0→RunP n l s t (pNext l fl D s) ps r→RunP n l s t fl ((pP l fl D s,pRoom l fl D s)::ps) r
section
variable {n s t:Nat} {l:List Arc}
end
/-! ### a greater capacity -/
/-! ### arcs turned round,arcs in the opposite order -/
def turnA (a:Arc):Arc:=⟨a.t,a.f,a.c⟩
/-! ### differences of flows -/
end Go.Flow
namespace Go.Flow
def bget (B:List Bool) (v:Nat):Bool:=B.getD v false
structure RInv (n s:Nat) (E:Lk→Prop) (B:List Bool) (q:List Nat):Prop where
  len:B.length=n
  src:bget B s=true
  snd:∀ v,v<n→bget B v=true→Rch E s v
  qn:∀ v∈q,v<n∧bget B v=true
  cl:∀ u,u<n→bget B u=true→u∉q→∀ x,E x→x.f=u→bget B x.t=true
structure RVInv (n s:Nat) (E:Lk→Prop) (B:List Bool) (v:Nat) (q:List Nat) (pre:List Lk):Prop where
  len:B.length=n
  src:bget B s=true
  snd:∀ v,v<n→bget B v=true→Rch E s v
  vn:v<n
  v0:bget B v=true
  qn:∀ v∈q,v<n∧bget B v=true
  cl:∀ u,u<n→bget B u=true→u∉q→u≠v→∀ x,E x→x.f=u→bget B x.t=true
  pre0:∀ x∈pre,bget B x.t=true
section
variable {n s:Nat} {E:Lk→Prop} {B:List Bool}
end
def sideOf (B:List Bool) (k:Nat):List Int:=((List.range k).filter (fun v=>bget B v)).map (fun (v:Nat)=>(v:Int))
def maxErr (n:Int) (l:List Arc) (s t:Int):Int:=if chk n l≠0 then chk n l else if okEnds n s t=true then 0 else 2
def MaxOK (n:Int) (l:List Arc) (s t:Int) (F:List Int) (m e:Int):Prop:=
  (maxErr n l s t≠0∧e=maxErr n l s t∧F=[]∧m=0) ∨
  (maxErr n l s t=0∧e=0∧RunR n.toNat l s.toNat t.toNat (List.replicate l.length 0) F∧m=fval s l F)
def CutOK (n:Int) (l:List Arc) (s t:Int) (side:List Int) (c e:Int):Prop:=
  (maxErr n l s t≠0∧e=maxErr n l s t∧side=[]∧c=0) ∨
  (maxErr n l s t=0∧e=0∧∃ F B,RunR n.toNat l s.toNat t.toNat (List.replicate l.length 0) F∧IsReach n.toNat (rE l F) s.toNat (bget B)∧side=sideOf B n.toNat∧c=capOf (bget B) l)
structure Good (n:Int) (l:List Arc) (s t:Int) (n' s' t':Nat):Prop where
  en:n=n'
  es:s=s'
  et:t=t'
  sn:s'<n'
  tn:t'<n'
  ne:s'≠t'
  n2:n'≤2000
  l2:l.length≤20000
  ok:∀ a∈l,okArc n' a=true
  chk:Flow.chk n l=0
  ends:okEnds n s t=true
end Go.Flow
namespace Go.Flow
end Go.Flow
namespace Go.Flow
structure LInv (n t:Nat) (E:Lk→Prop) (D:List Int) (d:Nat) (pre:List Lk):Prop where
  len:D.length=n
  low:∀ v,v<n → -1≤D.getD v 0
  hi:∀ v,v<n→D.getD v 0≤(d:Int)+1
  at0:D.getD t 0=0
  zero:∀ v,v<n→D.getD v 0=0→v=t
  step:∀ v,v<n→0<D.getD v 0→∃ x,E x∧x.f=v∧D.getD x.t 0=D.getD v 0-1
  old:∀ x,E x→0≤D.getD x.t 0→D.getD x.t 0<(d:Int)→0≤D.getD x.f 0∧D.getD x.f 0≤D.getD x.t 0+1
  pre0:∀ x∈pre,E x→D.getD x.t 0=(d:Int)→0≤D.getD x.f 0
section
variable {n t:Nat} {E:Lk→Prop} {D:List Int} {d:Nat}
end
inductive RchN (E:Lk→Prop) (s:Nat):Nat→Nat→Prop
  | refl {k:Nat}:RchN E s k s
  | step {k:Nat} {x:Lk}:RchN E s k x.f→E x→RchN E s (k+1) x.t
structure KInv (n s:Nat) (E:Lk→Prop) (B:List Bool) (r:Nat) (pre:List Lk):Prop where
  len:B.length=n
  snd:∀ v,v<n→bget B v=true→Rch E s v
  cmp:∀ v,v<n→RchN E s r v→bget B v=true
  pre0:∀ x∈pre,E x→RchN E s r x.f→bget B x.t=true
section
variable {n s:Nat} {E:Lk→Prop} {B:List Bool} {r:Nat}
end
end Go.Flow
namespace Go.Flow
/-! ### the laws -/
section
variable {n s t:Int} {l:List Arc}
end
end Go.Flow
namespace Go.Flow
end Go.Flow
namespace Go.Flow
def PathsOK (n:Int) (l:List Arc) (fl:List Int) (s t:Int) (ps:List (List Lk × Int)) (e:Int):Prop:=
  ((valueSpec n l fl s t).2≠0∧e=(valueSpec n l fl s t).2∧ps=[]) ∨
  ((valueSpec n l fl s t).2=0∧e=0∧∃ r,RunP n.toNat l s.toNat t.toNat fl ps r)
end Go.Flow
namespace Go.Flow
/-! ### each path uses up an arc -/
end Go.Flow
namespace Go.Flow
end Go.Flow
namespace Go.Flow
section
variable {n s t:Nat} {l:List Arc}
end
end Go.Flow
namespace Go.Eng
variable {C : Cx} {D : List Deferred} {R H T : List PH} {L : Env} {K : List It}
def IterW (P : Program) (gv : Value) (R1 HI : List PH) (xs : List (List Value)) : Prop :=
  ∀ (y : Value) (S : Type) (Own : S → List PH) (Inv : Nat → S → Prop) (Stop : S → Prop) (Ry : List PH),
    (∀ i σ vs, xs[i]? = some vs → Inv i σ → Spec P y vs Ry (Own σ) (fun v H' => ∃ σ', H' = Own σ' ∧ ((v = .bool true ∧ Inv (i + 1) σ') ∨ (v = .bool false ∧ Stop σ')))) →
    (∃ l, y = yv l) → ∀ σ, Inv 0 σ → Spec P gv [y] (R1 ++ Ry) (Own σ ++ HI) (fun _ H' => ∃ σ', H' = Own σ' ∧ (Inv xs.length σ' ∨ Stop σ'))
theorem F9 {P : Program} {Q : Exit → Act → World → Prop} {N : Bs} {M : Nat} {g : Operand} {gf : FuncId} {cap : List Value} {ps : List Nat} {assign body : Code} {X : Type} {R1 HI Hr : List PH} {xs : List (List Value)} {fn : Func} {gc : Code}
    (hg : evalE L g = some (.func (.func gf) #[] cap.toArray)) (hgf : P.funcs[gf]? = some fn) (hgb : fn.body = some gc) (hname : (fn.name == "runtime.NumGoroutine") = false)
    (hit : IterW P (.func (.func gf) #[] cap.toArray) R1 HI xs) (hR1 : ∀ ρ ∈ R1, ρ ∈ R)
    (I : Nat → X → Prop) (Hx : X → List PH) (J : Code → X → Prop) (x0 : X) (hx0 : Hx x0 = T) (hT : Takes H (T ++ HI) Hr) (h0 : I 0 x0)
    (hround : ∀ l (r : Loop) i x vs, xs[i]? = some vs → I i x → r.params = ps.toArray → r.assign = assign → r.body = body → r.state = .ready → r.pending = none → Frm M L ⟨r.tmps, []⟩ →
      Spec P (yv l) vs R (sng l (.loop r) :: Hx x) (fun v H' => ∃ x', (v = .bool true ∧ I (i + 1) x' ∧ H' = sng l (.loop r) :: Hx x') ∨ (v = .bool false ∧ ∃ c, J c x' ∧ H' = sng l (.loop { r with state := .done, pending := some c }) :: Hx x')))
    (hdone : ∀ b x, I xs.length x → JK ⟨none, P, Q, N, M⟩ (mk b :: D) R (sng b defO :: (Hx x ++ Hr)) L K)
    (hjump : ∀ b c x, J c x → JK ⟨none, P, Q, N, M⟩ (mk b :: D) R (sng b defO :: (Hx x ++ Hr)) L (.code c :: K)) :
    JK ⟨none, P, Q, N, M⟩ D R H L (.code (.rangeFunc g ps.toArray assign body) :: K) := by
  subst hx0
  refine ⟨fun a w hf hd hs => wpIn_rangeFunc (fun fnn _ => ?_)⟩
  let r : Loop := { state := .ready, pending := none, fn := fnn, tmps := a.tmps, params := ps.toArray, assign, body, defers := w.heap.size }
  let w1 : World := (w.alloc defO).alloc (.loop r)
  have hs2 := hT.sat hs
  have hs3 := (hs2.alloc defO).alloc (.loop r)
  have hl : (w.alloc defO).heap.size = w.heap.size + 1 := by simp
  rw [hl] at hs3
  refine ⟨w.heap.size + 1, [mk w.heap.size], w1, ⟨.fn (.func gf) cap.toArray, #[yv (w.heap.size + 1)]⟩, w1, gf, ([yv (w.heap.size + 1)] ++ cap).toArray, w1, ?_, ?_, fun _ _ => trivial, ?_, fun h => by simp [Fence.wide] at h, ?_⟩
  · simp [Instr.enterLoop, w1, r]
  · have hgv' : a.eval g = .func (.func gf) #[] cap.toArray := hf.on g _ hg
    have hc : a.eval (.const (yv (w.heap.size + 1))) = yv (w.heap.size + 1) := rfl
    simp [resolve, Deferred.ofValue, hgv', hc]
  · have hname' : ¬ fn.name = "runtime.NumGoroutine" := by simpa using hname
    simp [invoke, callFunc, program, Sem.run, bind, Sem.bind, pure, hgf, hgb, hname']
  · let Own : X × Option Code → List PH := fun σ => match σ.2 with
      | none => sng (w.heap.size + 1) (.loop r) :: Hx σ.1
      | some c => sng (w.heap.size + 1) (.loop { r with state := .done, pending := some c }) :: Hx σ.1
    have hspec := hit (yv (w.heap.size + 1)) (X × Option Code) Own (fun i σ => σ.2 = none ∧ I i σ.1) (fun σ => ∃ c, σ.2 = some c ∧ J c σ.1) R
      (fun i σ vs hvs ⟨h1, h2⟩ => by
        obtain ⟨x, o⟩ := σ
        simp only at h1 h2;subst h1;refine (hround (w.heap.size + 1) r i x vs hvs h2 rfl rfl rfl rfl rfl ⟨hf.size, hf.get⟩).mono ?_;rintro v H' ⟨x', ⟨e1, e2, e3⟩ | ⟨e1, c, e2, e3⟩⟩
        · exact ⟨(x', none), e3, .inl ⟨e1, rfl, e2⟩⟩
        · exact ⟨(x', some c), e3, .inr ⟨e1, c, rfl, e2⟩⟩)
      ⟨_, rfl⟩ (x0, none) ⟨rfl, h0⟩
    have hs4 : Sat N R ((Own (x0, none) ++ HI) ++ (sng w.heap.size defO :: Hr)) w1 := hs3.perm (by
      simp only [Own, List.cons_append]
      exact (List.perm_middle.symm).cons _)
    have hs5 : Sat N (R1 ++ R) (Own (x0, none) ++ HI) w1 := (hs4.rsub (R' := R1 ++ R) (fun ρ hρ => by
      rcases List.mem_append.1 hρ with h | h
      · exact hR1 ρ h
      · exact h)).left
    have hc := hspec N w1 hs5
    unfold CallsV at hc
    have hname' : ¬ fn.name = "runtime.NumGoroutine" := by simpa using hname
    have hrun : ((do let d ← Deferred.ofValue (.func (.func gf) #[] cap.toArray) [yv (w.heap.size + 1)].toArray; invoke d.target d.args : Sem Next).run P w1) = .ok (.enter gf ([yv (w.heap.size + 1)] ++ cap).toArray) w1 := by
      simp [Deferred.ofValue, invoke, callFunc, program, Sem.run, bind, Sem.bind, pure, hgf, hgb, hname']
    rw [hrun] at hc;simp only at hc
    refine CallsIn.mono (show CallsIn (wideR none) 0 P gf _ w1 _ from hc) ?_
    rintro e w3 ⟨v, rfl, H', ⟨⟨x, o⟩, rfl, hfin⟩, hu⟩
    have hs6 := hs4.upd hu
    have hfin' : ∃ r', r'.state ≠ .busy ∧ Own (x, o) = sng (w.heap.size + 1) (.loop r') :: Hx x ∧ ((r'.pending = none ∧ I xs.length x) ∨ ∃ c, r'.pending = some c ∧ J c x) := by
      rcases hfin with ⟨h1, h2⟩ | ⟨c, h1, h2⟩
      · simp only at h1 h2; subst h1; exact ⟨r, by simp [r], rfl, .inl ⟨rfl, h2⟩⟩
      · simp only at h1 h2; subst h1; exact ⟨{ r with state := .done, pending := some c }, by simp, rfl, .inr ⟨c, rfl, h2⟩⟩
    obtain ⟨r', hb, ho, hfin'⟩ := hfin'
    rw [ho] at hs6;simp only [List.cons_append] at hs6
    have hown := hs6.own Take.here
    have hend : (Instr.endLoop (w.heap.size + 1)).run P w3 = .ok r'.pending { w3 with heap := w3.heap.setIfInBounds (w.heap.size + 1) (.loop { r' with state := .exhausted }) } := by
      simp [Instr.endLoop, run_getLoop hown, run_setLoop hown, hb]
    refine ⟨r'.pending, _, hend, ?_⟩
    have hs7 : Sat N R (sng w.heap.size defO :: (Hx x ++ Hr)) { w3 with heap := w3.heap.setIfInBounds (w.heap.size + 1) (.loop { r' with state := .exhausted }) } :=
      ((hs6.turnAny (o' := .loop { r' with state := .exhausted }) Take.here).tail).perm List.perm_middle
    have hfr : Frm M L { a with defers := [mk w.heap.size] ++ a.defers } := ⟨hf.size, hf.get⟩
    have hdf : ({ a with defers := [mk w.heap.size] ++ a.defers } : Act).defers = mk w.heap.size :: D := by simp [hd]
    rcases hfin' with ⟨hp, hI⟩ | ⟨c, hp, hJ⟩
    · rw [hp] at hs7 ⊢
      exact (hdone w.heap.size x hI).run _ _ hfr hdf hs7
    · rw [hp] at hs7 ⊢
      exact (hjump w.heap.size c x hJ).run _ _ hfr hdf hs7

end Go.Eng
namespace Go.Flow
end Go.Flow
namespace Go.Eng
variable {L:Env} {R H:List PH}
theorem resSEE {fn:Func} {N:Bs} {M:Nat} {P:Program} {t u u' b1:Nat} {T:TypeId} {v1:List Value} {v2 v3:Value} (hr:fn.results = #[.cell t T,.tmp u,.tmp u']) (ht:look L t=some (.pointer (some ⟨b1,0,none⟩))) (hu:look L u=some v2) (hu':look L u'=some v3) (a1:aggP P T=some true)
    (n1:szP P T=some v1.length) (c1:Cells N R H b1 0 v1):∀ a w,Frm M L a→Sat N R H w→(results fn a.tmps).run P w=.ok (.tuple #[.agg v1.toArray,v2,v3]) w:=by
  intro a w hf hs
  have e1:a.tmps[t]?.getD undef=.pointer (some ⟨b1,0,none⟩):=by simpa using hf.get t _ ht
  have e2:a.tmps[u]?.getD undef=v2:=by simpa using hf.get u _ hu
  have e3:a.tmps[u']?.getD undef=v3:=by simpa using hf.get u' _ hu'
  have l1:=run_loadCells_list (P:=P) (w:=w) ⟨b1,0,none⟩ v1 (fun j v hv=>by rw [Addr.add_lit]; exact c1 w hs j v hv)
  simp [results,hr,e1,e2,e3,loadVar,run_isAgg a1,run_sizeOf n1,l1,asAddr]
end Go.Eng
