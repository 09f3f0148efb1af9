/- Texts of this proof, one after the other; no conditions. -/
import Derived.Test.YtekcielcagdcmaaGreatDoorWB12
import Derived.Test.YtekcielcagdcmaaGreatDoorWB2
import Derived.Test.YtekcielcagdcmaaGreatDoorWB5
import Derived.Test.YtekcielcagdcmaaGreatDoorWB1
import Derived.Test.YtekcielcagdcmaaGreatDoorWB11
import Derived.Test.YtekcielcagdcmaaGreatDoorWB10
set_option linter.all false
/- Sessions: what arrives is taken; whether the timer can expire. -/
namespace Go.Proofs.YtekcielcagdcmaaGreatDoor
open Go.Eng Go.Step
set_option maxRecDepth 100000
set_option maxHeartbeats 64000000
theorem trTake0_spec {σ:PH} {d:List UInt8} {F:List (Frm × Value)} {p:Option Addr} {c:Nat} {rng sent lost now lo hi:Int} {y4 y5 y6 y7 y8 y9 y10 y11 y12 y13 y14 y16 y17 y18 y19 y20 y21 y22 y23 y24 y25 y26 y27 y28 y29 y30 y31 y32 y33 y34 y35 y36 y37 y38 y39:Value} {n:Nat} {K:Iv} {isd:Bool} (hO:OwnS 283 10 (.slice p F.length c) F.length (F.flatMap (encF d)) σ) (h1:∀ f∈F,f.2.oneCell'=true) (hC:ChOK lo hi n K isd ⟨F.map (·.1),sent,lost⟩) (hlo:0≤lo) (hhi:hi≤2199023255552) (hr:1≤rng∧rng≤1048576) (hs:sent≤1000000) (bs:Nat) :
  Eng.Spec Tryz.prog (fv 177) [.pointer (some ⟨bs,0,none⟩),.pointer (some ⟨bs,0,none⟩)] [] [sng bs (.cells #[int rng,.slice p F.length c,int sent,int lost,y4,y5,y6,y7,y8,y9,y10,y11,y12,y13,y14,int now,y16,y17,y18,y19,y20,y21,y22,y23,y24,y25,y26,y27,y28,y29,y30,y31,y32,y33,y34,y35,y36,y37,y38,y39] 101 (0,0)),σ] (fun r H'=>((∀ x l,F=x::l→x.1.arr≠now)∧r=.tuple #[.agg #[int 0,int 0,int 0,int 0,int 0,.bool false,str [],.slice none 0 0],.bool false]∧H'=[sng bs (.cells #[int rng,.slice p F.length c,int sent,int lost,y4,y5,y6,y7,y8,y9,y10,y11,y12,y13,y14,int now,y16,y17,y18,y19,y20,y21,y22,y23,y24,y25,y26,y27,y28,y29,y30,y31,y32,y33,y34,y35,y36,y37,y38,y39] 101 (0,0)),σ]) ∨
   (∃ x l p' c' σ',F=x::l∧x.1.arr=now∧r=.tuple #[.agg (encMsg d x.2 x.1.g).toArray,.bool true]∧OwnS 283 10 (.slice p' l.length c') l.length (l.flatMap (encF d)) σ'∧H'=[sng bs (.cells #[int rng,.slice p' l.length c',int sent,int lost,y4,y5,y6,y7,y8,y9,y10,y11,y12,y13,y14,int now,y16,y17,y18,y19,y20,y21,y22,y23,y24,y25,y26,y27,y28,y29,y30,y31,y32,y33,y34,y35,y36,y37,y38,y39] 101 (0,0)),σ'])):=by
 have hnx:=lnkNext_spec hO.at h1 hC hlo hhi hr hs
 obtain ⟨_,_,e0,hcap⟩:=hO.formC
 simp only [Value.slice.injEq] at e0
 obtain ⟨rfl,_,rfl⟩:=e0
 have c4:RdN (sng bs (.cells #[int rng,.slice p F.length c,int sent,int lost,y4,y5,y6,y7,y8,y9,y10,y11,y12,y13,y14,int now,y16,y17,y18,y19,y20,y21,y22,y23,y24,y25,y26,y27,y28,y29,y30,y31,y32,y33,y34,y35,y36,y37,y38,y39] 101 (0,0))) bs 0 [int rng,.slice p F.length c,int sent,int lost]:=(rdP_sng (xs:=[int rng,.slice p F.length c,int sent,int lost,y4,y5,y6,y7,y8,y9,y10,y11,y12,y13,y14,int now,y16,y17,y18,y19,y20,y21,y22,y23,y24,y25,y26,y27,y28,y29,y30,y31,y32,y33,y34,y35,y36,y37,y38,y39]) rfl).rd
 refine spec_in (cap:=[]) Tryz.func177 rfl rfl Tryz.ntmps177 rfl envZ (fun N β=>?_)
 refine Aa ?_;refine A4 ?_; rintro _ _ ⟨b,rfl,rfl⟩;refine Aa8 ?_;refine AU ?_;refine AQ ?_
 revert b; intro b4
 refine AT hnx rfl rfl rdZ rfl rfl ?_;rintro _ (⟨rfl,rfl⟩|⟨x,l,rfl,rfl⟩)
 ·refine AB ?_
  refine Aax ?_;refine Aco ?_;refine Adj ?_;refine Adc ?_;refine B6 ?_;refine AY ?_; rintro _ _ ⟨rfl,rfl⟩;refine Aaa ?_
  exact AK (H':=[sng bs (.cells #[int rng,.slice p ([]:List (Frm × Value)).length c,int sent,int lost,y4,y5,y6,y7,y8,y9,y10,y11,y12,y13,y14,int now,y16,y17,y18,y19,y20,y21,y22,y23,y24,y25,y26,y27,y28,y29,y30,y31,y32,y33,y34,y35,y36,y37,y38,y39] 101 (0,0)),σ]) (resSE (b1:=b4) (T:=54) (v1:=[int 0,int 0,int 0,int 0,int 0,.bool false,str [],.slice none 0 0]) rfl rfl rfl rfl rfl (cells_own memZ)) rsubZ selZ (.inl ⟨fun x l h=>(by cases h),rfl,rfl⟩)
 by_cases hnow:x.1.arr=now
 rotate_left
 ·refine AB ?_
  refine Aax ?_;refine Aco ?_;refine Abq ?_;refine Abh ?_;refine C8 ?_;refine AP ?_;refine Acy ?_;refine B6 ?_;refine AY ?_; rintro _ _ ⟨rfl,rfl⟩;refine Aaa ?_
  exact AK (H':=[sng bs (.cells #[int rng,.slice p (x::l).length c,int sent,int lost,y4,y5,y6,y7,y8,y9,y10,y11,y12,y13,y14,int now,y16,y17,y18,y19,y20,y21,y22,y23,y24,y25,y26,y27,y28,y29,y30,y31,y32,y33,y34,y35,y36,y37,y38,y39] 101 (0,0)),σ]) (resSE (b1:=b4) (T:=54) (v1:=[int 0,int 0,int 0,int 0,int 0,.bool false,str [],.slice none 0 0]) rfl rfl rfl rfl rfl (cells_own memZ)) rsubZ selZ (.inl ⟨fun x' l' h=>(by obtain ⟨rfl,_⟩:=List.cons.inj h; exact hnow),rfl,rfl⟩)
 have hrc:=lnkReceive_spec hO.at hcap h1 hC hlo hhi hr hs
 have hx1:=h1 x (by simp)
 obtain ⟨m0,m1,m2,m3,m4,m5,m6,m7,em,k0,k1,k2,k3,k4,k5,k6,k7⟩:=enc8 d x.1.g hx1
 have ef:encF d x=[int x.1.arr,int x.1.num,m0,m1,m2,m3,m4,m5,m6,m7]:=by unfold encF; rw [em]
 rw [ef] at hrc;rw [← hnow] at c4 ⊢;refine Aa7 ?_;refine Aco ?_;refine Abq ?_;refine Abh ?_;refine Adb ?_;refine Aab ?_;refine AU ?_;refine AQ ?_;refine BI hrc rfl rfl Takes.nil rdZ rfl rfl ?_;rintro _ _ ⟨p',c',σ',rfl,hO',rfl⟩;refine Acq ?_;refine AJ ?_;refine A4 ?_; rintro _ _ ⟨b,rfl,rfl⟩;refine A4 ?_; rintro _ _ ⟨b,rfl,rfl⟩;refine AY ?_; rintro _ _ ⟨rfl,rfl⟩;refine AY ?_; rintro _ _ ⟨rfl,rfl⟩;refine Abv ?_;refine AQ ?_;refine AU ?_
 rename_i b8
 revert b; intro b9
 refine AS (ρ:=sng b9 (.cells #[int x.1.arr,int x.1.num,m0,m1,m2,m3,m4,m5,m6,m7] 283 (0,0))) takeZ ?_;refine AS (ρ:=sng b8 (.cells #[int rng,.slice p' l.length c',int sent,int lost] 92 (0,0))) takeZ ?_
 have fp:RdP (sng b9 (.cells #[int x.1.arr,int x.1.num,m0,m1,m2,m3,m4,m5,m6,m7] 283 (0,0))) b9 2 [m0,m1,m2,m3,m4,m5,m6,m7]:=rdP_sng (xs:=[int x.1.arr,int x.1.num,m0,m1,m2,m3,m4,m5,m6,m7]) rfl
 have cw:=rdB b8 92 [int rng,.slice p' l.length c',int sent,int lost]
 skip
 refine B4 (C3 (vs:=[int rng,.slice p' l.length c',int sent,int lost]) rfl rfl oneZ rfl takeZ (by show 0+4≤40; omega)) rfl rfl ?_
 rintro _ _ ⟨rfl,rfl⟩
 change JK _ _ _ (sng bs (.cells #[int rng,.slice p' l.length c',int sent,int lost,y4,y5,y6,y7,y8,y9,y10,y11,y12,y13,y14,int x.1.arr,y16,y17,y18,y19,y20,y21,y22,y23,y24,y25,y26,y27,y28,y29,y30,y31,y32,y33,y34,y35,y36,y37,y38,y39] 101 (0,0))::_) _ _
 refine Acm ?_;refine Acs ?_;refine AY ?_; rintro _ _ ⟨rfl,rfl⟩;refine Aaa ?_
 exact AK (H':=[sng bs (.cells #[int rng,.slice p' l.length c',int sent,int lost,y4,y5,y6,y7,y8,y9,y10,y11,y12,y13,y14,int x.1.arr,y16,y17,y18,y19,y20,y21,y22,y23,y24,y25,y26,y27,y28,y29,y30,y31,y32,y33,y34,y35,y36,y37,y38,y39] 101 (0,0)),σ']) (resSE (b1:=b4) (T:=54) (v1:=[m0,m1,m2,m3,m4,m5,m6,m7]) rfl rfl rfl rfl rfl (cells_own memZ)) rsubZ selZ (.inr ⟨x,l,p',c',σ',rfl,rfl,by rw [em],hO',rfl⟩)
theorem trTake1_spec {σ:PH} {d:List UInt8} {F:List (Frm × Value)} {p:Option Addr} {c:Nat} {rng sent lost now lo hi:Int} {y0 y1 y2 y3 y8 y9 y10 y11 y12 y13 y14 y16 y17 y18 y19 y20 y21 y22 y23 y24 y25 y26 y27 y28 y29 y30 y31 y32 y33 y34 y35 y36 y37 y38 y39:Value} {n:Nat} {K:Iv} {isd:Bool} (hO:OwnS 283 10 (.slice p F.length c) F.length (F.flatMap (encF d)) σ) (h1:∀ f∈F,f.2.oneCell'=true) (hC:ChOK lo hi n K isd ⟨F.map (·.1),sent,lost⟩) (hlo:0≤lo) (hhi:hi≤2199023255552) (hr:1≤rng∧rng≤1048576) (hs:sent≤1000000) (bs:Nat) :
  Eng.Spec Tryz.prog (fv 177) [.pointer (some ⟨bs,0,none⟩),.pointer (some ⟨bs,4,none⟩)] [] [sng bs (.cells #[y0,y1,y2,y3,int rng,.slice p F.length c,int sent,int lost,y8,y9,y10,y11,y12,y13,y14,int now,y16,y17,y18,y19,y20,y21,y22,y23,y24,y25,y26,y27,y28,y29,y30,y31,y32,y33,y34,y35,y36,y37,y38,y39] 101 (0,0)),σ] (fun r H'=>((∀ x l,F=x::l→x.1.arr≠now)∧r=.tuple #[.agg #[int 0,int 0,int 0,int 0,int 0,.bool false,str [],.slice none 0 0],.bool false]∧H'=[sng bs (.cells #[y0,y1,y2,y3,int rng,.slice p F.length c,int sent,int lost,y8,y9,y10,y11,y12,y13,y14,int now,y16,y17,y18,y19,y20,y21,y22,y23,y24,y25,y26,y27,y28,y29,y30,y31,y32,y33,y34,y35,y36,y37,y38,y39] 101 (0,0)),σ]) ∨
   (∃ x l p' c' σ',F=x::l∧x.1.arr=now∧r=.tuple #[.agg (encMsg d x.2 x.1.g).toArray,.bool true]∧OwnS 283 10 (.slice p' l.length c') l.length (l.flatMap (encF d)) σ'∧H'=[sng bs (.cells #[y0,y1,y2,y3,int rng,.slice p' l.length c',int sent,int lost,y8,y9,y10,y11,y12,y13,y14,int now,y16,y17,y18,y19,y20,y21,y22,y23,y24,y25,y26,y27,y28,y29,y30,y31,y32,y33,y34,y35,y36,y37,y38,y39] 101 (0,0)),σ'])):=by
 have hnx:=lnkNext_spec hO.at h1 hC hlo hhi hr hs
 obtain ⟨_,_,e0,hcap⟩:=hO.formC
 simp only [Value.slice.injEq] at e0
 obtain ⟨rfl,_,rfl⟩:=e0
 have c4:RdN (sng bs (.cells #[y0,y1,y2,y3,int rng,.slice p F.length c,int sent,int lost,y8,y9,y10,y11,y12,y13,y14,int now,y16,y17,y18,y19,y20,y21,y22,y23,y24,y25,y26,y27,y28,y29,y30,y31,y32,y33,y34,y35,y36,y37,y38,y39] 101 (0,0))) bs 4 [int rng,.slice p F.length c,int sent,int lost]:=(rdP_sng (xs:=[y0,y1,y2,y3,int rng,.slice p F.length c,int sent,int lost,y8,y9,y10,y11,y12,y13,y14,int now,y16,y17,y18,y19,y20,y21,y22,y23,y24,y25,y26,y27,y28,y29,y30,y31,y32,y33,y34,y35,y36,y37,y38,y39]) rfl).rd
 refine spec_in (cap:=[]) Tryz.func177 rfl rfl Tryz.ntmps177 rfl envZ (fun N β=>?_)
 refine Aa ?_;refine A4 ?_; rintro _ _ ⟨b,rfl,rfl⟩;refine Aa8 ?_;refine AU ?_;refine AQ ?_
 revert b; intro b4
 refine AT hnx rfl rfl rdZ rfl rfl ?_;rintro _ (⟨rfl,rfl⟩|⟨x,l,rfl,rfl⟩)
 ·refine AB ?_
  refine Aax ?_;refine Aco ?_;refine Adj ?_;refine Adc ?_;refine B6 ?_;refine AY ?_; rintro _ _ ⟨rfl,rfl⟩;refine Aaa ?_
  exact AK (H':=[sng bs (.cells #[y0,y1,y2,y3,int rng,.slice p ([]:List (Frm × Value)).length c,int sent,int lost,y8,y9,y10,y11,y12,y13,y14,int now,y16,y17,y18,y19,y20,y21,y22,y23,y24,y25,y26,y27,y28,y29,y30,y31,y32,y33,y34,y35,y36,y37,y38,y39] 101 (0,0)),σ]) (resSE (b1:=b4) (T:=54) (v1:=[int 0,int 0,int 0,int 0,int 0,.bool false,str [],.slice none 0 0]) rfl rfl rfl rfl rfl (cells_own memZ)) rsubZ selZ (.inl ⟨fun x l h=>(by cases h),rfl,rfl⟩)
 by_cases hnow:x.1.arr=now
 rotate_left
 ·refine AB ?_
  refine Aax ?_;refine Aco ?_;refine Abq ?_;refine Abh ?_;refine C8 ?_;refine AP ?_;refine Acy ?_;refine B6 ?_;refine AY ?_; rintro _ _ ⟨rfl,rfl⟩;refine Aaa ?_
  exact AK (H':=[sng bs (.cells #[y0,y1,y2,y3,int rng,.slice p (x::l).length c,int sent,int lost,y8,y9,y10,y11,y12,y13,y14,int now,y16,y17,y18,y19,y20,y21,y22,y23,y24,y25,y26,y27,y28,y29,y30,y31,y32,y33,y34,y35,y36,y37,y38,y39] 101 (0,0)),σ]) (resSE (b1:=b4) (T:=54) (v1:=[int 0,int 0,int 0,int 0,int 0,.bool false,str [],.slice none 0 0]) rfl rfl rfl rfl rfl (cells_own memZ)) rsubZ selZ (.inl ⟨fun x' l' h=>(by obtain ⟨rfl,_⟩:=List.cons.inj h; exact hnow),rfl,rfl⟩)
 have hrc:=lnkReceive_spec hO.at hcap h1 hC hlo hhi hr hs
 have hx1:=h1 x (by simp)
 obtain ⟨m0,m1,m2,m3,m4,m5,m6,m7,em,k0,k1,k2,k3,k4,k5,k6,k7⟩:=enc8 d x.1.g hx1
 have ef:encF d x=[int x.1.arr,int x.1.num,m0,m1,m2,m3,m4,m5,m6,m7]:=by unfold encF; rw [em]
 rw [ef] at hrc;rw [← hnow] at c4 ⊢;refine Aa7 ?_;refine Aco ?_;refine Abq ?_;refine Abh ?_;refine Adb ?_;refine Aab ?_;refine AU ?_;refine AQ ?_;refine BI hrc rfl rfl Takes.nil rdZ rfl rfl ?_;rintro _ _ ⟨p',c',σ',rfl,hO',rfl⟩;refine Acq ?_;refine AJ ?_;refine A4 ?_; rintro _ _ ⟨b,rfl,rfl⟩;refine A4 ?_; rintro _ _ ⟨b,rfl,rfl⟩;refine AY ?_; rintro _ _ ⟨rfl,rfl⟩;refine AY ?_; rintro _ _ ⟨rfl,rfl⟩;refine Abv ?_;refine AQ ?_;refine AU ?_
 rename_i b8
 revert b; intro b9
 refine AS (ρ:=sng b9 (.cells #[int x.1.arr,int x.1.num,m0,m1,m2,m3,m4,m5,m6,m7] 283 (0,0))) takeZ ?_;refine AS (ρ:=sng b8 (.cells #[int rng,.slice p' l.length c',int sent,int lost] 92 (0,0))) takeZ ?_
 have fp:RdP (sng b9 (.cells #[int x.1.arr,int x.1.num,m0,m1,m2,m3,m4,m5,m6,m7] 283 (0,0))) b9 2 [m0,m1,m2,m3,m4,m5,m6,m7]:=rdP_sng (xs:=[int x.1.arr,int x.1.num,m0,m1,m2,m3,m4,m5,m6,m7]) rfl
 have cw:=rdB b8 92 [int rng,.slice p' l.length c',int sent,int lost]
 skip
 refine B4 (C3 (vs:=[int rng,.slice p' l.length c',int sent,int lost]) rfl rfl oneZ rfl takeZ (by show 4+4≤40; omega)) rfl rfl ?_
 rintro _ _ ⟨rfl,rfl⟩
 change JK _ _ _ (sng bs (.cells #[y0,y1,y2,y3,int rng,.slice p' l.length c',int sent,int lost,y8,y9,y10,y11,y12,y13,y14,int x.1.arr,y16,y17,y18,y19,y20,y21,y22,y23,y24,y25,y26,y27,y28,y29,y30,y31,y32,y33,y34,y35,y36,y37,y38,y39] 101 (0,0))::_) _ _
 refine Acm ?_;refine Acs ?_;refine AY ?_; rintro _ _ ⟨rfl,rfl⟩;refine Aaa ?_
 exact AK (H':=[sng bs (.cells #[y0,y1,y2,y3,int rng,.slice p' l.length c',int sent,int lost,y8,y9,y10,y11,y12,y13,y14,int x.1.arr,y16,y17,y18,y19,y20,y21,y22,y23,y24,y25,y26,y27,y28,y29,y30,y31,y32,y33,y34,y35,y36,y37,y38,y39] 101 (0,0)),σ']) (resSE (b1:=b4) (T:=54) (v1:=[m0,m1,m2,m3,m4,m5,m6,m7]) rfl rfl rfl rfl rfl (cells_own memZ)) rsubZ selZ (.inr ⟨x,l,p',c',σ',rfl,rfl,by rw [em],hO',rfl⟩)
theorem trWaits_spec {P:Par} {s:Ss} {pp pq:Option Addr} {cp cq:Nat} {y0 y1 y2 y3 y4 y5 y6 y7 y13 y14 y15 y16 y17 y18 y19 y20 y21 y22 y23 y24 y25 y26 y27 y28 y29 y31 y32 y33 y34 y35 y36 y37 y38 y39:Value} (bs:Nat):Ans Tryz.prog (fv 138) [.pointer (some ⟨bs,0,none⟩)] [sng bs (.cells #[y0,y1,y2,y3,y4,y5,y6,y7,.slice pp P.picks.length cp,int P.limit,.slice pq P.dark.length cq,int s.ent,int s.dis,y13,y14,y15,y16,y17,y18,y19,y20,y21,y22,y23,y24,y25,y26,y27,y28,y29,int s.snd.st,y31,y32,y33,y34,y35,y36,y37,y38,y39] 101 (0,0))] (fun r=>r=.bool (waitsM s)):=by
 have bx304_3:=rdB bs 101 [y0,y1,y2,y3,y4,y5,y6,y7,.slice pp P.picks.length cp,int P.limit,.slice pq P.dark.length cq,int s.ent,int s.dis,y13,y14,y15,y16,y17,y18,y19,y20,y21,y22,y23,y24,y25,y26,y27,y28,y29,int s.snd.st,y31,y32,y33,y34,y35,y36,y37,y38,y39]
 have f30:=rdC bx304_3 30
 unfold waitsM
 refine spec_in (cap:=[]) Tryz.func138 rfl rfl Tryz.ntmps138 rfl envZ (fun N β=>?_)
 by_cases h1:s.snd.st=1
 rotate_left
 ·rw [decide_eq_false h1]
  refine Ac0 ?_;refine Abc ?_;refine DQ ?_;refine AF ?_;refine B9 ?_;refine Acf ?_;refine Ac2 ?_;exact A9 ⟨rfl,rfl⟩
 rw [decide_eq_true h1];refine Ac0 ?_;refine Abc ?_;refine DQ ?_;refine AF ?_;refine CN ?_;refine Aao ?_;refine Abc ?_;refine AT (trFull_spec (P:=P) (s:=s) bs) rfl rfl rdZ rfl rfl ?_;rintro _ rfl
 by_cases h2:s.ent<10000
 ·rw [decide_eq_true h2,decide_eq_false (show ¬ 10000≤s.ent by omega)]
  refine BE ?_;refine Abm ?_;exact A9 ⟨rfl,rfl⟩
 ·rw [decide_eq_false h2,decide_eq_true (show 10000≤s.ent by omega)]
  refine BE ?_;refine Abm ?_;exact A9 ⟨rfl,rfl⟩
theorem trAdd_spec (o:Option Int) (t:Int) (q:Bool) (b4 b5:Nat) :
  Eng.Spec Tryz.prog (.func (.func 135) #[] #[.pointer (some ⟨b5,0,none⟩),.pointer (some ⟨b4,0,none⟩)]) [int t,.bool q] [] [sng b4 (.cells #[int (o.getD 0)] 3 (0,0)),sng b5 (.cells #[.bool o.isSome] 4 (0,0))] (fun r H'=>r=.tuple #[]∧H'=[sng b4 (.cells #[int ((minO o (if q then some t else none)).getD 0)] 3 (0,0)),sng b5 (.cells #[.bool (minO o (if q then some t else none)).isSome] 4 (0,0))]):=by
 refine spec_in (cap:=[.pointer (some ⟨b5,0,none⟩),.pointer (some ⟨b4,0,none⟩)]) Tryz.func135 rfl rfl Tryz.ntmps135 rfl envZ (fun N β=>?_)
 cases q with
 | false =>
  have e:minO o (if false=true then some t else none)=o:=by cases o <;> rfl
  rw [e];refine Aar ?_;refine Aac ?_;refine Aac ?_;refine Aac ?_;refine AI rfl rfl rfl ?_;refine Aa4 ?_;exact BV (res0 rfl) rsubZ selZ ⟨rfl,rfl⟩
 | true =>
  cases o with
  | none =>
   refine Aar ?_;refine AF ?_;refine BE ?_;refine Aa3 ?_;refine AV ?_;refine Abk ?_;refine Ac7 ?_;refine BC ?_; rintro _ _ ⟨rfl,rfl⟩;refine BC ?_; rintro _ _ ⟨rfl,rfl⟩;refine AE ?_;exact BV (res0 rfl) rsubZ selZ ⟨rfl,rfl⟩
  | some a =>
   have g1:(some a).getD 0=a:=rfl
   have g2:(some a).isSome=true:=rfl
   rw [g1,g2]
   by_cases h:t<a
   ·have e:minO (some a) (if true=true then some t else none)=some t:=if_pos h
    rw [e];refine Aar ?_;refine AF ?_;refine Ada ?_;refine AF ?_;refine B7 ?_;refine AP ?_;refine Abk ?_;refine Ac7 ?_;refine BC ?_; rintro _ _ ⟨rfl,rfl⟩;refine BC ?_; rintro _ _ ⟨rfl,rfl⟩;refine AE ?_;exact BV (H':=[sng b4 (.cells #[int t] 3 (0,0)),sng b5 (.cells #[.bool true] 4 (0,0))]) (res0 rfl) rsubZ selZ ⟨rfl,rfl⟩
   ·have e:minO (some a) (if true=true then some t else none)=some a:=if_neg h
    rw [e];refine Aar ?_;refine AF ?_;refine Ada ?_;refine AF ?_;refine BK ?_;refine AP ?_;refine AV ?_;refine Aag ?_;exact BV (H':=[sng b4 (.cells #[int a] 3 (0,0)),sng b5 (.cells #[.bool true] 4 (0,0))]) (res0 rfl) rsubZ selZ ⟨rfl,rfl⟩
theorem trSteps_spec:Ans Tryz.prog (fv 94) [] [] (fun r=>r=.agg #[fv 139,fv 140,fv 141,fv 142]):=by
 refine spec_in (cap:=[]) Tryz.func94 rfl rfl Tryz.ntmps94 rfl envZ (fun N β=>?_)
 refine Aa ?_;refine A4 ?_; rintro _ _ ⟨b,rfl,rfl⟩;refine Acm ?_
 focus ((refine BT (DY (s:=1) (out:=[fv 139,fv 140,fv 141,fv 142]) rfl rfl rfl rfl (by kernel_rfl)) rfl rfl rfl ?_))
 refine AY ?_; rintro _ _ ⟨rfl,rfl⟩;refine AE ?_;exact AK (resS1 (v1:=[fv 139,fv 140,fv 141,fv 142]) rfl rfl rfl rfl (cells_own memZ)) rsubZ selZ ⟨rfl,rfl⟩
theorem lnkNextO_spec {σ:PH} {d:List UInt8} {F:List (Frm × Value)} {p:Option Addr} {c:Nat} {rng sent lost lo hi:Int} {n:Nat} {K:Iv} {isd:Bool} (hv:SlE (encF d) 10 σ (.slice p F.length c) F) (h1:∀ f∈F,f.2.oneCell'=true) (hC:ChOK lo hi n K isd ⟨F.map (·.1),sent,lost⟩) (hlo:0≤lo) (hhi:hi≤2199023255552) (hr:1≤rng∧rng≤1048576) (hs:sent≤1000000) :
  Ans Tryz.prog (fv 137) [.agg #[int rng,.slice p F.length c,int sent,int lost]] [σ] (fun r=>r=.tuple #[int (((F.map (·.1)).head?.map (·.arr)).getD 0),.bool ((F.map (·.1)).head?.map (·.arr)).isSome]):=
 (lnkNext_spec hv h1 hC hlo hhi hr hs).mono (by
  rintro r H' ⟨hH,⟨rfl,rfl⟩|⟨x,l,rfl,rfl⟩⟩
  ·exact ⟨hH,rfl⟩
  ·exact ⟨hH,rfl⟩)
theorem minO_get {o a:Option Int}:minO o (if a.isSome=true then some (a.getD 0) else none)=minO o a:=by
 cases a <;> rfl
theorem trNext_spec {σd σr σw:PH} {P:Par} {s:Ss} {d:List UInt8} {Fd Fr:List (Frm × Value)} {pd pr pp pq pw:Option Addr} {cd cr cp cq cw:Nat} {y13 y14 y15 y16 y17 y18 y19 y20 y21 y22 y23 y24 y25 y26 y27 y28 y31 y32 y33 y34 y36 y37 y38 y39:Value} {ld lr:Int} (hd:SlE (encF d) 10 σd (.slice pd Fd.length cd) Fd) (hd1:∀ f∈Fd,f.2.oneCell'=true) (hdm:Fd.map (·.1)=s.dat.fr) (hdC:ChOK ld (P.e+2*P.c.g) P.d.length s.K true s.dat) (hld:0≤ld) (hhi:P.e+2*P.c.g≤2199023255552)
  (hr:SlE (encF d) 10 σr (.slice pr Fr.length cr) Fr) (hr1:∀ f∈Fr,f.2.oneCell'=true) (hrm:Fr.map (·.1)=s.rep.fr) (hrC:ChOK lr 2199023255552 P.d.length s.K false s.rep) (hlr:0≤lr) (hg:1≤P.c.g∧P.c.g≤1048576) (hds:s.dat.sent≤100000) (hrs:s.rep.sent≤100000) (hw:SlE (encO 0 d) 9 σw (.slice pw s.wait.length cw) s.wait) (hwl:s.wait.length≤1000000) (bs:Nat) :
  Eng.Spec Tryz.prog (fv 93) [.pointer (some ⟨bs,0,none⟩)] [] [sng bs (.cells #[int P.c.g,.slice pd Fd.length cd,int s.dat.sent,int s.dat.lost,int P.c.g,.slice pr Fr.length cr,int s.rep.sent,int s.rep.lost,.slice pp P.picks.length cp,int P.limit,.slice pq P.dark.length cq,int s.ent,int s.dis,y13,y14,y15,y16,y17,y18,y19,y20,y21,y22,y23,y24,y25,y26,y27,y28,int s.snd.due,int s.snd.st,y31,y32,y33,y34,.slice pw s.wait.length cw,y36,y37,y38,y39] 101 (0,0)),σd,σr,σw] (fun r H'=>r=.tuple #[int ((nextM (clrM s)).getD 0),.bool (nextM (clrM s)).isSome]∧H'=[(if 10000≤s.ent then sng bs (.cells #[int P.c.g,.slice pd Fd.length cd,int s.dat.sent,int s.dat.lost,int P.c.g,.slice pr Fr.length cr,int s.rep.sent,int s.rep.lost,.slice pp P.picks.length cp,int P.limit,.slice pq P.dark.length cq,int s.ent,int s.dis,y13,y14,y15,y16,y17,y18,y19,y20,y21,y22,y23,y24,y25,y26,y27,y28,int s.snd.due,int s.snd.st,y31,y32,y33,y34,.slice none 0 0,y36,y37,y38,y39] 101 (0,0)) else sng bs (.cells #[int P.c.g,.slice pd Fd.length cd,int s.dat.sent,int s.dat.lost,int P.c.g,.slice pr Fr.length cr,int s.rep.sent,int s.rep.lost,.slice pp P.picks.length cp,int P.limit,.slice pq P.dark.length cq,int s.ent,int s.dis,y13,y14,y15,y16,y17,y18,y19,y20,y21,y22,y23,y24,y25,y26,y27,y28,int s.snd.due,int s.snd.st,y31,y32,y33,y34,.slice pw s.wait.length cw,y36,y37,y38,y39] 101 (0,0))),σd,σr,σw]):=by
 have hnd:=lnkNextO_spec (rng:=P.c.g) (sent:=s.dat.sent) (lost:=s.dat.lost) hd hd1 (by rw [hdm]; exact hdC) hld hhi hg (by omega)
 have hnr:=lnkNextO_spec (rng:=P.c.g) (sent:=s.rep.sent) (lost:=s.rep.lost) hr hr1 (by rw [hrm]; exact hrC) hlr (Int.le_refl _) hg (by omega)
 rw [hdm] at hnd;rw [hrm] at hnr
 refine spec_in (cap:=[]) Tryz.func93 rfl rfl Tryz.ntmps93 rfl envZ (fun N β=>?_)
 refine Acn ?_;refine Aa ?_;refine CQ ?_; rintro _ _ ⟨b,rfl,rfl⟩;refine CQ ?_; rintro _ _ ⟨b,rfl,rfl⟩;refine BC ?_; rintro _ _ ⟨rfl,rfl⟩;refine BC ?_; rintro _ _ ⟨rfl,rfl⟩;refine Acm ?_;refine BZ ?_;refine Aa8 ?_;refine Abc ?_
 rename_i b4
 revert b; intro b5
 refine AT (trFull_spec (P:=P) (s:=s) bs) rfl rfl rdZ rfl rfl ?_;rintro _ rfl
 by_cases hfull:10000≤s.ent
 ·rw [decide_eq_true hfull,if_pos hfull]
  have hcl:clrM s={ s with wait:=[] }:=if_pos hfull
  rw [hcl];refine Aai ?_;refine Ac7 ?_;refine Abc ?_;refine BC ?_; rintro _ _ ⟨rfl,rfl⟩;refine Adi ?_;refine Abh ?_;refine BD ?_;refine Adg ?_;refine Adn ?_;refine AG ?_
  have c0:RdN (sng bs (.cells #[int P.c.g,.slice pd Fd.length cd,int s.dat.sent,int s.dat.lost,int P.c.g,.slice pr Fr.length cr,int s.rep.sent,int s.rep.lost,.slice pp P.picks.length cp,int P.limit,.slice pq P.dark.length cq,int s.ent,int s.dis,y13,y14,y15,y16,y17,y18,y19,y20,y21,y22,y23,y24,y25,y26,y27,y28,int s.snd.due,int s.snd.st,y31,y32,y33,y34,.slice none 0 0,y36,y37,y38,y39] 101 (0,0))) bs 0 [int P.c.g,.slice pd Fd.length cd,int s.dat.sent,int s.dat.lost]:=(rdP_sng (xs:=[int P.c.g,.slice pd Fd.length cd,int s.dat.sent,int s.dat.lost,int P.c.g,.slice pr Fr.length cr,int s.rep.sent,int s.rep.lost,.slice pp P.picks.length cp,int P.limit,.slice pq P.dark.length cq,int s.ent,int s.dis,y13,y14,y15,y16,y17,y18,y19,y20,y21,y22,y23,y24,y25,y26,y27,y28,int s.snd.due,int s.snd.st,y31,y32,y33,y34,.slice none 0 0,y36,y37,y38,y39]) rfl).rd
  have c4:RdN (sng bs (.cells #[int P.c.g,.slice pd Fd.length cd,int s.dat.sent,int s.dat.lost,int P.c.g,.slice pr Fr.length cr,int s.rep.sent,int s.rep.lost,.slice pp P.picks.length cp,int P.limit,.slice pq P.dark.length cq,int s.ent,int s.dis,y13,y14,y15,y16,y17,y18,y19,y20,y21,y22,y23,y24,y25,y26,y27,y28,int s.snd.due,int s.snd.st,y31,y32,y33,y34,.slice none 0 0,y36,y37,y38,y39] 101 (0,0))) bs 4 [int P.c.g,.slice pr Fr.length cr,int s.rep.sent,int s.rep.lost]:=(rdP_sng (xs:=[int P.c.g,.slice pd Fd.length cd,int s.dat.sent,int s.dat.lost,int P.c.g,.slice pr Fr.length cr,int s.rep.sent,int s.rep.lost,.slice pp P.picks.length cp,int P.limit,.slice pq P.dark.length cq,int s.ent,int s.dis,y13,y14,y15,y16,y17,y18,y19,y20,y21,y22,y23,y24,y25,y26,y27,y28,int s.snd.due,int s.snd.st,y31,y32,y33,y34,.slice none 0 0,y36,y37,y38,y39]) rfl).rd
  refine AQ ?_;refine AT hnd rfl rfl rdZ rfl rfl ?_;rintro _ rfl;refine Aat ?_;refine BI (trAdd_spec none _ _ b4 b5) rfl rfl takesZ rdZ rfl rfl ?_;rintro _ _ ⟨rfl,rfl⟩;rw [minO_get];refine AE ?_;refine Adn ?_;refine Acs ?_;refine AT hnr rfl rfl rdZ rfl rfl ?_;rintro _ rfl;refine Aat ?_;refine BI (trAdd_spec _ _ _ b4 b5) rfl rfl takesZ rdZ rfl rfl ?_;rintro _ _ ⟨rfl,rfl⟩;rw [minO_get];refine Aap ?_
  refine BB (.q 0 (.q 1 (.q 2 (.q 3 (.q 4 (.q 5 (.q 6 (.l 7 .e (.l 8 .b .nil))))))))) [] rfl (by kernel_rfl) Sel.nil ?_
  refine AL ?_;refine Acl ?_;refine Acw ?_;refine AL ?_;refine BQ (CI rfl (trWaits_spec (P:=P) (s:=s) bs) rfl rfl rdZ rfl rfl ?_);rintro _ rfl
  refine BQ (CH rfl (trAdd_spec _ _ _ b4 b5) rfl rfl takesZ rdZ rfl rfl (fun _ _ _ w hw=>hw.sel Sel.nil) ?_)
  rintro _ _ ⟨rfl,rfl⟩;refine A8 ?_;refine AD ?_
  refine BB (.q 0 (.q 1 (.q 2 (.q 3 .nil)))) [] rfl (by kernel_rfl) Sel.nil ?_
  refine AX ?_;refine AX ?_;refine Abo ?_
  skip
  exact AK (H':=[sng bs (.cells #[int P.c.g,.slice pd Fd.length cd,int s.dat.sent,int s.dat.lost,int P.c.g,.slice pr Fr.length cr,int s.rep.sent,int s.rep.lost,.slice pp P.picks.length cp,int P.limit,.slice pq P.dark.length cq,int s.ent,int s.dis,y13,y14,y15,y16,y17,y18,y19,y20,y21,y22,y23,y24,y25,y26,y27,y28,int s.snd.due,int s.snd.st,y31,y32,y33,y34,.slice none 0 0,y36,y37,y38,y39] 101 (0,0)),σd,σr,σw]) (res2 rfl rfl rfl) rsubZ selZ ⟨by unfold nextM; rfl,rfl⟩
 rw [decide_eq_false hfull,if_neg hfull]
 have hcl:clrM s=s:=if_neg hfull
 rw [hcl]
 obtain ⟨_,_,e0,hrw⟩:=hw.val (encO_len 0 d)
 simp only [Value.slice.injEq] at e0
 obtain ⟨rfl,_,rfl⟩:=e0
 rcases hwt:s.wait with _|⟨x,w⟩
 ·have hl0:s.wait.length=0:=by rw [hwt]; rfl
  rw [← hwt];refine Aag ?_;refine Aah ?_;refine Abh ?_;refine BD ?_;refine Adg ?_;refine Adn ?_;refine AG ?_
  have c0:RdN (sng bs (.cells #[int P.c.g,.slice pd Fd.length cd,int s.dat.sent,int s.dat.lost,int P.c.g,.slice pr Fr.length cr,int s.rep.sent,int s.rep.lost,.slice pp P.picks.length cp,int P.limit,.slice pq P.dark.length cq,int s.ent,int s.dis,y13,y14,y15,y16,y17,y18,y19,y20,y21,y22,y23,y24,y25,y26,y27,y28,int s.snd.due,int s.snd.st,y31,y32,y33,y34,.slice pw s.wait.length cw,y36,y37,y38,y39] 101 (0,0))) bs 0 [int P.c.g,.slice pd Fd.length cd,int s.dat.sent,int s.dat.lost]:=(rdP_sng (xs:=[int P.c.g,.slice pd Fd.length cd,int s.dat.sent,int s.dat.lost,int P.c.g,.slice pr Fr.length cr,int s.rep.sent,int s.rep.lost,.slice pp P.picks.length cp,int P.limit,.slice pq P.dark.length cq,int s.ent,int s.dis,y13,y14,y15,y16,y17,y18,y19,y20,y21,y22,y23,y24,y25,y26,y27,y28,int s.snd.due,int s.snd.st,y31,y32,y33,y34,.slice pw s.wait.length cw,y36,y37,y38,y39]) rfl).rd
  have c4:RdN (sng bs (.cells #[int P.c.g,.slice pd Fd.length cd,int s.dat.sent,int s.dat.lost,int P.c.g,.slice pr Fr.length cr,int s.rep.sent,int s.rep.lost,.slice pp P.picks.length cp,int P.limit,.slice pq P.dark.length cq,int s.ent,int s.dis,y13,y14,y15,y16,y17,y18,y19,y20,y21,y22,y23,y24,y25,y26,y27,y28,int s.snd.due,int s.snd.st,y31,y32,y33,y34,.slice pw s.wait.length cw,y36,y37,y38,y39] 101 (0,0))) bs 4 [int P.c.g,.slice pr Fr.length cr,int s.rep.sent,int s.rep.lost]:=(rdP_sng (xs:=[int P.c.g,.slice pd Fd.length cd,int s.dat.sent,int s.dat.lost,int P.c.g,.slice pr Fr.length cr,int s.rep.sent,int s.rep.lost,.slice pp P.picks.length cp,int P.limit,.slice pq P.dark.length cq,int s.ent,int s.dis,y13,y14,y15,y16,y17,y18,y19,y20,y21,y22,y23,y24,y25,y26,y27,y28,int s.snd.due,int s.snd.st,y31,y32,y33,y34,.slice pw s.wait.length cw,y36,y37,y38,y39]) rfl).rd
  refine AQ ?_;refine AT hnd rfl rfl rdZ rfl rfl ?_;rintro _ rfl;refine Aat ?_;refine BI (trAdd_spec none _ _ b4 b5) rfl rfl takesZ rdZ rfl rfl ?_;rintro _ _ ⟨rfl,rfl⟩;rw [minO_get];refine AE ?_;refine Adn ?_;refine Acs ?_;refine AT hnr rfl rfl rdZ rfl rfl ?_;rintro _ rfl;refine Aat ?_;refine BI (trAdd_spec _ _ _ b4 b5) rfl rfl takesZ rdZ rfl rfl ?_;rintro _ _ ⟨rfl,rfl⟩;rw [minO_get];refine Aap ?_
  refine BB (.q 0 (.q 1 (.q 2 (.q 3 (.q 4 (.q 5 (.q 6 (.l 7 .e (.l 8 .b .nil))))))))) [] rfl (by kernel_rfl) Sel.nil ?_
  refine AL ?_;refine Acl ?_;refine Acw ?_;refine AL ?_;refine BQ (CI rfl (trWaits_spec (P:=P) (s:=s) bs) rfl rfl rdZ rfl rfl ?_);rintro _ rfl
  refine BQ (CH rfl (trAdd_spec _ _ _ b4 b5) rfl rfl takesZ rdZ rfl rfl (fun _ _ _ w hw=>hw.sel Sel.nil) ?_)
  rintro _ _ ⟨rfl,rfl⟩;refine A8 ?_;refine AD ?_
  refine BB (.q 0 (.q 1 (.q 2 (.q 3 .nil)))) [] rfl (by kernel_rfl) Sel.nil ?_
  refine AX ?_;refine AX ?_;refine Abo ?_
  skip
  exact AK (H':=[sng bs (.cells #[int P.c.g,.slice pd Fd.length cd,int s.dat.sent,int s.dat.lost,int P.c.g,.slice pr Fr.length cr,int s.rep.sent,int s.rep.lost,.slice pp P.picks.length cp,int P.limit,.slice pq P.dark.length cq,int s.ent,int s.dis,y13,y14,y15,y16,y17,y18,y19,y20,y21,y22,y23,y24,y25,y26,y27,y28,int s.snd.due,int s.snd.st,y31,y32,y33,y34,.slice pw s.wait.length cw,y36,y37,y38,y39] 101 (0,0)),σd,σr,σw]) (res2 rfl rfl rfl) rsubZ selZ ⟨by unfold nextM; rw [hwt]; rfl,rfl⟩
 have hl0:s.wait.length=w.length+1:=by rw [hwt]; rfl
 obtain ⟨bw,ow,rfl,hR⟩:=hrw 0 x (by rw [hwt]; rfl)
 have z0:rdc σw bw (ow+0*9)=some (int x.1):=RdN.get0 hR
 have z1:rdc σw bw ow=some (int x.1):=by rw [Nat.zero_mul] at z0; exact z0
 rw [← hwt];refine Aag ?_;refine Aah ?_;refine Abh ?_;refine BD ?_;refine DA ?_;refine Aai ?_;refine Acp ?_;refine Abh ?_;refine DX ?_;refine Ac8 ?_;refine BI (trAdd_spec none _ true b4 b5) rfl rfl takesZ rdZ rfl rfl ?_;rintro _ _ ⟨rfl,rfl⟩
 rw [show minO none (if true=true then some x.1 else none)=some x.1 from rfl]
 have c0:RdN (sng bs (.cells #[int P.c.g,.slice pd Fd.length cd,int s.dat.sent,int s.dat.lost,int P.c.g,.slice pr Fr.length cr,int s.rep.sent,int s.rep.lost,.slice pp P.picks.length cp,int P.limit,.slice pq P.dark.length cq,int s.ent,int s.dis,y13,y14,y15,y16,y17,y18,y19,y20,y21,y22,y23,y24,y25,y26,y27,y28,int s.snd.due,int s.snd.st,y31,y32,y33,y34,.slice (some ⟨bw,ow,none⟩) s.wait.length cw,y36,y37,y38,y39] 101 (0,0))) bs 0 [int P.c.g,.slice pd Fd.length cd,int s.dat.sent,int s.dat.lost]:=(rdP_sng (xs:=[int P.c.g,.slice pd Fd.length cd,int s.dat.sent,int s.dat.lost,int P.c.g,.slice pr Fr.length cr,int s.rep.sent,int s.rep.lost,.slice pp P.picks.length cp,int P.limit,.slice pq P.dark.length cq,int s.ent,int s.dis,y13,y14,y15,y16,y17,y18,y19,y20,y21,y22,y23,y24,y25,y26,y27,y28,int s.snd.due,int s.snd.st,y31,y32,y33,y34,.slice (some ⟨bw,ow,none⟩) s.wait.length cw,y36,y37,y38,y39]) rfl).rd
 have c4:RdN (sng bs (.cells #[int P.c.g,.slice pd Fd.length cd,int s.dat.sent,int s.dat.lost,int P.c.g,.slice pr Fr.length cr,int s.rep.sent,int s.rep.lost,.slice pp P.picks.length cp,int P.limit,.slice pq P.dark.length cq,int s.ent,int s.dis,y13,y14,y15,y16,y17,y18,y19,y20,y21,y22,y23,y24,y25,y26,y27,y28,int s.snd.due,int s.snd.st,y31,y32,y33,y34,.slice (some ⟨bw,ow,none⟩) s.wait.length cw,y36,y37,y38,y39] 101 (0,0))) bs 4 [int P.c.g,.slice pr Fr.length cr,int s.rep.sent,int s.rep.lost]:=(rdP_sng (xs:=[int P.c.g,.slice pd Fd.length cd,int s.dat.sent,int s.dat.lost,int P.c.g,.slice pr Fr.length cr,int s.rep.sent,int s.rep.lost,.slice pp P.picks.length cp,int P.limit,.slice pq P.dark.length cq,int s.ent,int s.dis,y13,y14,y15,y16,y17,y18,y19,y20,y21,y22,y23,y24,y25,y26,y27,y28,int s.snd.due,int s.snd.st,y31,y32,y33,y34,.slice (some ⟨bw,ow,none⟩) s.wait.length cw,y36,y37,y38,y39]) rfl).rd
 refine AE ?_;refine Adn ?_;refine Acs ?_;refine AT hnd rfl rfl rdZ rfl rfl ?_;rintro _ rfl;refine Aat ?_;refine BI (trAdd_spec (some x.1) _ _ b4 b5) rfl rfl takesZ rdZ rfl rfl ?_;rintro _ _ ⟨rfl,rfl⟩;rw [minO_get];refine AE ?_;refine Adn ?_;refine Acs ?_;refine AT hnr rfl rfl rdZ rfl rfl ?_;rintro _ rfl;refine Aat ?_;refine BI (trAdd_spec _ _ _ b4 b5) rfl rfl takesZ rdZ rfl rfl ?_;rintro _ _ ⟨rfl,rfl⟩;rw [minO_get];refine Aap ?_
 refine BB (.q 0 (.q 1 (.q 2 (.q 3 (.q 4 (.q 5 (.q 6 (.l 7 .e (.l 8 .b .nil))))))))) [] rfl (by kernel_rfl) Sel.nil ?_
 refine AL ?_;refine Acl ?_;refine Acw ?_;refine AL ?_;refine BQ (CI rfl (trWaits_spec (P:=P) (s:=s) bs) rfl rfl rdZ rfl rfl ?_);rintro _ rfl
 refine BQ (CH rfl (trAdd_spec _ _ _ b4 b5) rfl rfl takesZ rdZ rfl rfl (fun _ _ _ w hw=>hw.sel Sel.nil) ?_)
 rintro _ _ ⟨rfl,rfl⟩;refine A8 ?_;refine AD ?_
 refine BB (.q 0 (.q 1 (.q 2 (.q 3 .nil)))) [] rfl (by kernel_rfl) Sel.nil ?_
 refine AX ?_;refine AX ?_;refine Abo ?_
 skip
 exact AK (H':=[sng bs (.cells #[int P.c.g,.slice pd Fd.length cd,int s.dat.sent,int s.dat.lost,int P.c.g,.slice pr Fr.length cr,int s.rep.sent,int s.rep.lost,.slice pp P.picks.length cp,int P.limit,.slice pq P.dark.length cq,int s.ent,int s.dis,y13,y14,y15,y16,y17,y18,y19,y20,y21,y22,y23,y24,y25,y26,y27,y28,int s.snd.due,int s.snd.st,y31,y32,y33,y34,.slice (some ⟨bw,ow,none⟩) s.wait.length cw,y36,y37,y38,y39] 101 (0,0)),σd,σr,σw]) (res2 rfl rfl rfl) rsubZ selZ ⟨by unfold nextM; rw [hwt]; rfl,rfl⟩
end Go.Proofs.YtekcielcagdcmaaGreatDoor
namespace Go.Eng
def OwnQ (e:TypeId) (size:Nat) (v:Value) (n:Nat) (xs:List Value) (ρ:PH):Prop:=
  (v=.slice none 0 0∧n=0∧xs=[]∧ρ=emp)∨OwnO e size v n xs ρ
theorem OwnQ.ofS {e:TypeId} {size n:Nat} {v:Value} {xs:List Value} {ρ:PH} (h:OwnS e size v n xs ρ):OwnQ e size v n xs ρ:=by
  obtain ⟨hl,⟨h1,rfl,h0⟩|⟨b,cap,cur,rfl,rfl,h1,h2,h3,h4⟩⟩:=h
  · exact .inl ⟨h1,rfl,List.eq_nil_of_length_eq_zero (by simpa using hl),h0⟩
  · exact .inr ⟨hl,b,0,cap,cur,rfl,rfl,h1,h2,by omega,by simpa using h4⟩
theorem OwnQ.form {e:TypeId} {size n:Nat} {v:Value} {xs:List Value} {ρ:PH} (h:OwnQ e size v n xs ρ):∃ p c,v=.slice p n c:=by
  rcases h with ⟨rfl,rfl,_⟩|⟨_,b,o,cap,cur,rfl,_⟩
  · exact ⟨none,0,rfl⟩
  · exact ⟨_,cap,rfl⟩
theorem OwnQ.at {e:TypeId} {size n:Nat} {v:Value} {xs:List Value} {ρ:PH} (h:OwnQ e size v n xs ρ):SlAt ρ size v n xs:=by
  rcases h with ⟨rfl,rfl,rfl,_⟩|⟨hl,b,o,cap,cur,rfl,rfl,h1,h2,h3,h4⟩
  · exact ⟨by simp,.inl ⟨rfl,none,0,rfl⟩⟩
  · refine ⟨hl,.inr ⟨b,o,cap,rfl,fun j u hu=>?_⟩⟩
    rw [rdc_sng,← Array.getElem?_toList];rw [← h4,List.getElem?_take] at hu
    split at hu
    · rw [List.getElem?_drop] at hu
      exact hu
    · cases hu
theorem OwnQ.cut {e:TypeId} {s n c:Nat} {p:Option Addr} {a xs:List Value} {ρ:PH} (h:OwnQ e s (.slice p (n+1) c) (n+1) (a ++ xs) ρ) (ha:a.length=s):OwnQ e s (.slice (cutP p c 1 s) n (c-1)) n xs ρ:=by
  rcases h with ⟨_,h,_⟩|⟨hl,b,o,cap,cur,hv,rfl,h1,h2,h3,h4⟩
  · omega
  simp only [Value.slice.injEq] at hv
  obtain ⟨rfl,_,rfl⟩:=hv
  have hxl:xs.length=n*s:=by
    rw [List.length_append,ha,Nat.add_mul] at hl;omega
  refine .inr ⟨hxl,?_⟩;unfold cutP
  by_cases hc:c=1
  · rw [if_pos hc]
    have hn:n=0:=by omega
    subst hn
    have hx:xs=[]:=List.eq_nil_of_length_eq_zero (by simpa using hxl)
    subst hx
    exact ⟨b,o,c-1,cur,rfl,rfl,by omega,by omega,by rw [hc] at h3 ⊢; simp at h3 ⊢; omega,by simp⟩
  · rw [if_neg hc]
    refine ⟨b,o+1*s,c-1,cur,by simp [Addr.add_lit],rfl,by omega,by omega,?_,?_⟩
    · have:c*s=(c-1)*s+1*s:=by rw [← Nat.add_mul]; congr 1; omega
      omega
    · have h5:xs=(a ++ xs).drop s:=by rw [← ha,List.drop_left]
      rw [h5,← h4,List.drop_take,List.drop_drop]
      congr 1
      · rw [Nat.add_mul]; omega
      · congr 1; omega
theorem OwnQ.nil (e:TypeId) (size:Nat):OwnQ e size (.slice none 0 0) 0 [] emp:=.inl ⟨rfl,rfl,rfl,rfl⟩
section
variable {C:Cx} {R H:List PH} {L:Env} {dst:Option Tmp} {ty:TypeId} {pos:String} {aft:Array Edge} {g:Option (Nat × Bool)}
theorem EC {x y:Operand} {t e:TypeId} {s by_:Nat} {z:Value} {v w0:Value} {m:Nat} {news:List Value} {ρ σ:PH} {H':List PH}
    (hx:evalE L x=some v) (hy:evalE L y=some w0) (ht:elemP C.P t=some e) (hs:szP C.P e=some s) (hz:zeroP C.P e=some z) (hb:bytesP C.P e=some by_)
    (hzs:z.cells.size=s) (hq:OwnQ e s v 0 [] ρ) (htk:Take ρ H H') (hw:SlAt σ s w0 m news) (hc:∀ b o,RdN σ b o news→Cells C.N R H' b o news) (h1:∀ u∈news,u.oneCell'=true) (hmax:m≤maxLen) (hby:m*by_≤140737488355328) :
    Loud C R H L ⟨dst,.call ⟨.builtin .append,#[x,y],#[t,t]⟩,ty,pos,aft,g⟩ (fun u H2=>∃ ρ',OwnQ e s u m news ρ'∧H2=ρ'::H'):=by
  rcases hq with ⟨rfl,_,_,rfl⟩|hO
  · refine ⟨fun a w hxx hsat next Q hnx=>(DP hx hy ht hs hz hb hzs (OwnS.nil e s) htk hw hc h1 (by omega) (by rw [Nat.zero_add]; exact hby)).run a w hxx hsat next Q (fun u H2 w' hp hs'=>hnx u H2 w' ?_ hs')⟩
    obtain ⟨ρ',k1,k2⟩:=hp
    rw [Nat.zero_add,List.nil_append] at k1;exact ⟨ρ',OwnQ.ofS k1,k2⟩
  rcases Nat.eq_zero_or_pos m with rfl|hm
  · have hn:news=[]:=List.eq_nil_of_length_eq_zero (by have:=hw.1; simpa using this)
    subst hn
    obtain ⟨p,c2,rfl⟩:=hw.cap
    have hO2:=hO
    obtain ⟨_,b,o,cap,cur,rfl,rfl,h2,_⟩:=hO2
    have hq:=F2 (C:=C) (R:=R) (H:=H) (L:=L) (dst:=dst) (ty:=ty) (pos:=pos) (aft:=aft) (g:=g) hx hy ht hs h2
    refine ⟨fun a w hxx hsat next Q hnx=>hq.loud.run a w hxx hsat next Q (fun u H2 w' hp hs'=>?_)⟩
    obtain ⟨rfl,rfl⟩:=hp
    exact hnx _ _ _ ⟨_,.inr hO,rfl⟩ (hs'.take htk)
  · obtain ⟨hl,⟨h0,_⟩|⟨b2,o2,c2,rfl,hr⟩⟩:=hw
    · omega
    refine ⟨fun a w hxx hsat next Q hnx=>(F0 hx hy ht hs hz hb hzs hO htk (hc b2 o2 hr) hl h1 (by omega) (by rw [Nat.zero_add]; exact hby)).run a w hxx hsat next Q (fun u H2 w' hp hs'=>hnx u H2 w' ?_ hs')⟩
    obtain ⟨ρ',k1,k2⟩:=hp
    rw [Nat.zero_add,List.nil_append] at k1;exact ⟨ρ',.inr k1,k2⟩
end
end Go.Eng
namespace Go.Proofs.YtekcielcagdcmaaGreatDoor
open Go.Eng Go.Step
set_option maxRecDepth 100000
set_option maxHeartbeats 64000000
theorem trExpire_spec {σa σw:PH} {P:Par} {t0:Int} {s:Ss} {pa pp pq pw:Option Addr} {ka cp cq cw:Nat} {y0 y1 y2 y3 y4 y5 y6 y7 y13 y14 y31 y32 y33 y34 y36 y37 y38 y39:Value} (hP:okP P t0) (hsn:SdOK P s.K s.snd) (ha:SpAt σa (.slice pa s.snd.K.length ka) s.snd.K) (hq:OwnQ 56 9 (.slice pw s.wait.length cw) s.wait.length (s.wait.flatMap (encO 0 P.d)) σw) (hwe:waitsM s=true→s.snd.due=s.now→s.wait=[]) (hnow:s.now≤2199023255552) (bs:Nat) :
  Eng.Spec Tryz.prog (fv 142) [.pointer (some ⟨bs,0,none⟩)] [σa] [sng bs (.cells #[y0,y1,y2,y3,y4,y5,y6,y7,.slice pp P.picks.length cp,int P.limit,.slice pq P.dark.length cq,int s.ent,int s.dis,y13,y14,int s.now,int P.c.f,int P.c.t,int P.c.s,int P.c.e,int P.c.r,int P.c.g,int P.c.l,int 0,str P.d,int P.e,int s.snd.busy,int s.snd.sr,.slice pa s.snd.K.length ka,int s.snd.due,int s.snd.st,y31,y32,y33,y34,.slice pw s.wait.length cw,y36,y37,y38,y39] 101 (0,0)),σw] (fun r H'=>r=.tuple #[]∧∃ pw' cw' σw',OwnQ 56 9 (.slice pw' (expM P s).wait.length cw') (expM P s).wait.length ((expM P s).wait.flatMap (encO 0 P.d)) σw'∧H'=[sng bs (.cells #[y0,y1,y2,y3,y4,y5,y6,y7,.slice pp P.picks.length cp,int P.limit,.slice pq P.dark.length cq,int s.ent,int s.dis,y13,y14,int s.now,int P.c.f,int P.c.t,int P.c.s,int P.c.e,int P.c.r,int P.c.g,int P.c.l,int 0,str P.d,int P.e,int (expM P s).snd.busy,int (expM P s).snd.sr,.slice pa s.snd.K.length ka,int (expM P s).snd.due,int (expM P s).snd.st,y31,y32,y33,y34,.slice pw' (expM P s).wait.length cw',y36,y37,y38,y39] 101 (0,0)),σw']):=by
 have h2:=hP.h2
 have hcs:=chkCt_se hP.hc
 have hcr:=chkCt_rg hP.hc
 have f15:RdN (sng bs (.cells #[y0,y1,y2,y3,y4,y5,y6,y7,.slice pp P.picks.length cp,int P.limit,.slice pq P.dark.length cq,int s.ent,int s.dis,y13,y14,int s.now,int P.c.f,int P.c.t,int P.c.s,int P.c.e,int P.c.r,int P.c.g,int P.c.l,int 0,str P.d,int P.e,int s.snd.busy,int s.snd.sr,.slice pa s.snd.K.length ka,int s.snd.due,int s.snd.st,y31,y32,y33,y34,.slice pw s.wait.length cw,y36,y37,y38,y39] 101 (0,0))) bs 16 [int P.c.f,int P.c.t,int P.c.s,int P.c.e,int P.c.r,int P.c.g,int P.c.l,int 0,str P.d,int P.e,int s.snd.busy,int s.snd.sr,.slice pa s.snd.K.length ka,int s.snd.due,int s.snd.st]:=(rdP_sng (xs:=[y0,y1,y2,y3,y4,y5,y6,y7,.slice pp P.picks.length cp,int P.limit,.slice pq P.dark.length cq,int s.ent,int s.dis,y13,y14,int s.now,int P.c.f,int P.c.t,int P.c.s,int P.c.e,int P.c.r,int P.c.g,int P.c.l,int 0,str P.d,int P.e,int s.snd.busy,int s.snd.sr,.slice pa s.snd.K.length ka,int s.snd.due,int s.snd.st,y31,y32,y33,y34,.slice pw s.wait.length cw,y36,y37,y38,y39]) rfl).rd
 refine spec_in (cap:=[]) Tryz.func142 rfl rfl Tryz.ntmps142 rfl envZ (fun N β=>?_)
 refine Acv ?_
 refine BB (.q 0 (.l 1 .e (.q 2 (.q 3 (.q 4 (.q 5 (.q 6 (.q 7 (.q 8 (.q 9 (.q 10 (.q 11 (.q 12 (.q 13 (.q 14 .nil))))))))))))))) [] rfl (by kernel_rfl) Sel.nil ?_
 refine AL ?_;refine BQ (CI rfl (trWaits_spec (P:=P) (s:=s) bs) rfl rfl rdZ rfl rfl ?_);rintro _ rfl
 by_cases hwt:waitsM s=true
 rotate_left
 ·have hwf:waitsM s=false:=by simpa using hwt
  have hM:expM P s=s:=if_pos (.inl hwf)
  rw [hwf,hM];refine DC ?_;refine Acx ?_;refine Aae ?_;refine BY ?_;refine Aci ?_;exact AK (H':=[sng bs (.cells #[y0,y1,y2,y3,y4,y5,y6,y7,.slice pp P.picks.length cp,int P.limit,.slice pq P.dark.length cq,int s.ent,int s.dis,y13,y14,int s.now,int P.c.f,int P.c.t,int P.c.s,int P.c.e,int P.c.r,int P.c.g,int P.c.l,int 0,str P.d,int P.e,int s.snd.busy,int s.snd.sr,.slice pa s.snd.K.length ka,int s.snd.due,int s.snd.st,y31,y32,y33,y34,.slice pw s.wait.length cw,y36,y37,y38,y39] 101 (0,0)),σw]) (res0 rfl) rsubZ selZ ⟨rfl,pw,cw,σw,hq,rfl⟩
 rw [hwt]
 by_cases hdue:s.snd.due=s.now
 rotate_left
 ·have hM:expM P s=s:=if_pos (.inr hdue)
  rw [hM];refine DC ?_;refine AL ?_;refine Acl ?_;refine Acw ?_;refine Aa0 ?_;refine zd_ne ?_;refine CB ?_;refine Aci ?_;exact AK (H':=[sng bs (.cells #[y0,y1,y2,y3,y4,y5,y6,y7,.slice pp P.picks.length cp,int P.limit,.slice pq P.dark.length cq,int s.ent,int s.dis,y13,y14,int s.now,int P.c.f,int P.c.t,int P.c.s,int P.c.e,int P.c.r,int P.c.g,int P.c.l,int 0,str P.d,int P.e,int s.snd.busy,int s.snd.sr,.slice pa s.snd.K.length ka,int s.snd.due,int s.snd.st,y31,y32,y33,y34,.slice pw s.wait.length cw,y36,y37,y38,y39] 101 (0,0)),σw]) (res0 rfl) rsubZ selZ ⟨rfl,pw,cw,σw,hq,rfl⟩
 have hM:expM P s={ s with snd:=(waitM P s.snd s.now).1,wait:=s.wait ++ (waitM P s.snd s.now).2 }:=if_neg (fun h=>h.elim (fun h=>by rw [hwt] at h; cases h) (fun h=>h hdue))
 have hst:s.snd.st=1:=by
  unfold waitsM at hwt;simp only [Bool.and_eq_true,decide_eq_true_eq] at hwt;exact hwt.1
 rw [hst] at f15 ⊢
 obtain ⟨hKw,hdu⟩:s.snd.K≠[((0:Int),(P.d.length:Int))]∧s.snd.due=s.snd.busy+2*P.c.g+1:=by
  rcases hsn.st with ⟨_,g⟩|⟨g,_⟩|⟨g,_⟩
  ·exact g
  ·omega
  ·omega
 have hb:=hsn.b
 have hr:=hsn.r
 have hn1:=hP.n1
 have hn2:=hP.n2
 have hwt:=sndWait_spec (c:=P.c) (se:=0) (e:=P.e) (busy:=s.snd.busy) (sr:=s.snd.sr) (due:=s.snd.due) (t0:=s.now) (d:=P.d) (K:=s.snd.K) (p:=pa) (k:=ka) ha hP.hc ⟨by omega,by omega⟩ hn1 hn2 ⟨hb.1,hb.2,h2⟩ (by omega) hsn.k hKw hdu ⟨by omega,hnow⟩
 have hW:waitM P s.snd s.now=sendM P s.snd s.now (s.snd.sr+1) ((batM P s.snd).drop ((batM P s.snd).length-1)):=rfl
 have hwn:=hwe ‹_› hdue
 have hbm:batM P s.snd=bat (s.snd.sr+1) (pcsAll (missI P.d.length s.snd.K)):=rfl
 rw [hbm] at hW
 have hq0:OwnQ 56 9 (.slice pw s.wait.length cw) 0 [] σw:=by have h:=hq; rw [hwn] at h ⊢; exact h
 have hSM:sendM P s.snd s.now (s.snd.sr+1) ((bat (s.snd.sr+1) (pcsAll (missI P.d.length s.snd.K))).drop ((bat (s.snd.sr+1) (pcsAll (missI P.d.length s.snd.K))).length-1))=(if P.e<endG P.c.r s.now ((bat (s.snd.sr+1) (pcsAll (missI P.d.length s.snd.K))).drop ((bat (s.snd.sr+1) (pcsAll (missI P.d.length s.snd.K))).length-1)) then ({ s.snd with due:=0,st:=3 },[]) else (⟨endG P.c.r s.now ((bat (s.snd.sr+1) (pcsAll (missI P.d.length s.snd.K))).drop ((bat (s.snd.sr+1) (pcsAll (missI P.d.length s.snd.K))).length-1)),s.snd.sr+1,endG P.c.r s.now ((bat (s.snd.sr+1) (pcsAll (missI P.d.length s.snd.K))).drop ((bat (s.snd.sr+1) (pcsAll (missI P.d.length s.snd.K))).length-1))+2*P.c.g+1,1,s.snd.K⟩,timed P.c.r s.now ((bat (s.snd.sr+1) (pcsAll (missI P.d.length s.snd.K))).drop ((bat (s.snd.sr+1) (pcsAll (missI P.d.length s.snd.K))).length-1)))):=rfl
 have htl:=timed_len P.c.r ((bat (s.snd.sr+1) (pcsAll (missI P.d.length s.snd.K))).drop ((bat (s.snd.sr+1) (pcsAll (missI P.d.length s.snd.K))).length-1)) s.now
 have hgl:(((bat (s.snd.sr+1) (pcsAll (missI P.d.length s.snd.K))).drop ((bat (s.snd.sr+1) (pcsAll (missI P.d.length s.snd.K))).length-1))).length≤1:=by rw [List.length_drop]; omega
 rw [hM,hW,hSM];clear hM hW hSM hbm
 generalize ((bat (s.snd.sr+1) (pcsAll (missI P.d.length s.snd.K))).drop ((bat (s.snd.sr+1) (pcsAll (missI P.d.length s.snd.K))).length-1))=G at *
 generalize endG P.c.r s.now G=E at *
 refine DC ?_;refine AL ?_;refine Acl ?_;refine Acw ?_;refine Aa0 ?_;refine F4 ?_;refine CB ?_;refine Ab0 ?_;refine AD ?_
 refine DG (X:=Nat × List Value × Value × List PH) [0] (fun z=>(P.e<E∧z.2.1=[int P.c.f,int P.c.t,int P.c.s,int P.c.e,int P.c.r,int P.c.g,int P.c.l,int 0,str P.d,int P.e,int s.snd.busy,int s.snd.sr,.slice pa s.snd.K.length ka,int 0,int 3]∧z.2.2.1=.slice none 0 0∧z.2.2.2=[])∨(E≤P.e∧z.2.1=[int P.c.f,int P.c.t,int P.c.s,int P.c.e,int P.c.r,int P.c.g,int P.c.l,int 0,str P.d,int P.e,int E,int (s.snd.sr+1),.slice pa s.snd.K.length ka,int (E+2*P.c.g+1),int 1]∧∃ p4 c4 σ4,z.2.2.1=.slice p4 G.length c4∧OwnS 56 9 (.slice p4 (timed P.c.r s.now G).length c4) (timed P.c.r s.now G).length ((timed P.c.r s.now G).flatMap (encO 0 P.d)) σ4∧z.2.2.2=[σ4])) (fun z=>[(2,.pointer (some ⟨z.1,0,none⟩)),(3,z.2.2.1),(4,int 0)]) (fun z=>sng z.1 (.cells z.2.1.toArray 97 (0,0))::sng bs (.cells #[y0,y1,y2,y3,y4,y5,y6,y7,.slice pp P.picks.length cp,int P.limit,.slice pq P.dark.length cq,int s.ent,int s.dis,y13,y14,int s.now,int P.c.f,int P.c.t,int P.c.s,int P.c.e,int P.c.r,int P.c.g,int P.c.l,int 0,str P.d,int P.e,int s.snd.busy,int s.snd.sr,.slice pa s.snd.K.length ka,int s.snd.due,int 1,y31,y32,y33,y34,.slice pw s.wait.length cw,y36,y37,y38,y39] 101 (0,0))::σw::z.2.2.2) pickZ ?_ ?_
 ·refine BB (.q 0 (.q 1 (.q 2 (.q 3 (.q 4 (.q 5 (.q 6 (.q 7 (.l2 8 .e (.q 9 (.q 10 (.p 11 (.p 12 (.l 13 .e (.l 14 .b (.q 15 (.q 16 .nil)))))))) 13 .e (.l 8 .e (.q 9 (.q 10 (.p 11 (.p 12 (.l 14 .b (.q 15 (.q 16 .nil))))))))))))))))) [] rfl (by kernel_rfl) Sel.nil ?_
  repeat' (first
   | (refine AL ?_)
   | (refine AX ?_)
   | (refine A2 ?_)
   | (refine A3 ?_)
   | (refine BP ?_)
   | (refine C4 ?_ ?_)
   | (refine CC ?_; rintro _ _ ⟨b,rfl,rfl⟩)
   | fail)
  ·refine BX rfl hwt rfl rfl rdZ rfl rfl ?_
   rintro _ _ (⟨hlate,rfl,rfl⟩|⟨hok,p4,c4,σ4,rfl,hO4,rfl⟩)
   ·refine AL ?_
    refine Acr ?_;refine B5 ?_; rintro _ _ ⟨b,rfl,rfl⟩
    revert b; intro b2
    skip
    refine BQ ?_;refine' CO rfl _ rfl rfl _ _
    rotate_left
    ·apply BA; exact rfl; exact rfl; exact takeZ; exact oneZ; exact rfl; exact rfl
    ·rintro _ _ ⟨_,rfl⟩ w hw; exact hw.sel Sel.nil
    rintro _ _ ⟨rfl,rfl⟩;refine Abo ?_
    skip
    exact BF (b2,[int P.c.f,int P.c.t,int P.c.s,int P.c.e,int P.c.r,int P.c.g,int P.c.l,int 0,str P.d,int P.e,int s.snd.busy,int s.snd.sr,.slice pa s.snd.K.length ka,int 0,int 3],.slice none 0 0,[]) (.inl ⟨hlate,rfl,rfl,rfl⟩) covZ selZ
   ·refine AL ?_
    refine Acr ?_;refine B5 ?_; rintro _ _ ⟨b,rfl,rfl⟩
    revert b; intro b2
    skip
    refine BQ ?_;refine' CO rfl _ rfl rfl _ _
    rotate_left
    ·apply BA; exact rfl; exact rfl; exact takeZ; exact oneZ; exact rfl; exact rfl
    ·rintro _ _ ⟨_,rfl⟩ w hw; exact hw.sel Sel.nil
    rintro _ _ ⟨rfl,rfl⟩;refine Abo ?_
    skip
    exact BF (b2,[int P.c.f,int P.c.t,int P.c.s,int P.c.e,int P.c.r,int P.c.g,int P.c.l,int 0,str P.d,int P.e,int E,int (s.snd.sr+1),.slice pa s.snd.K.length ka,int (E+2*P.c.g+1),int 1],.slice p4 G.length c4,[σ4]) (.inr ⟨hok,rfl,p4,c4,σ4,rfl,hO4,rfl⟩) covZ selZ
  ·revert b; intro b2
   refine BQ (BX rfl hwt rfl rfl rdZ rfl rfl ?_);rintro _ _ (⟨hlate,rfl,rfl⟩|⟨hok,p4,c4,σ4,rfl,hO4,rfl⟩)
   ·refine AL ?_
    refine Acr ?_;refine BQ ?_;refine' CO rfl _ rfl rfl _ _
    rotate_left
    ·apply BA; exact rfl; exact rfl; exact takeZ; exact oneZ; exact rfl; exact rfl
    ·rintro _ _ ⟨_,rfl⟩ w hw; exact hw.sel Sel.nil
    rintro _ _ ⟨rfl,rfl⟩;refine Abo ?_
    skip
    exact BF (b2,[int P.c.f,int P.c.t,int P.c.s,int P.c.e,int P.c.r,int P.c.g,int P.c.l,int 0,str P.d,int P.e,int s.snd.busy,int s.snd.sr,.slice pa s.snd.K.length ka,int 0,int 3],.slice none 0 0,[]) (.inl ⟨hlate,rfl,rfl,rfl⟩) covZ selZ
   ·refine AL ?_
    refine Acr ?_;refine BQ ?_;refine' CO rfl _ rfl rfl _ _
    rotate_left
    ·apply BA; exact rfl; exact rfl; exact takeZ; exact oneZ; exact rfl; exact rfl
    ·rintro _ _ ⟨_,rfl⟩ w hw; exact hw.sel Sel.nil
    rintro _ _ ⟨rfl,rfl⟩;refine Abo ?_
    skip
    exact BF (b2,[int P.c.f,int P.c.t,int P.c.s,int P.c.e,int P.c.r,int P.c.g,int P.c.l,int 0,str P.d,int P.e,int E,int (s.snd.sr+1),.slice pa s.snd.K.length ka,int (E+2*P.c.g+1),int 1],.slice p4 G.length c4,[σ4]) (.inr ⟨hok,rfl,p4,c4,σ4,rfl,hO4,rfl⟩) covZ selZ
 rintro ⟨b2,vs,u,Hl⟩ hz
 dsimp only at hz ⊢
 rcases hz with ⟨hlate,rfl,rfl,rfl⟩|⟨hok,rfl,p4,c4,σ4,rfl,hO4,rfl⟩
 ·rw [if_pos hlate]
  dsimp only
  refine Ad2 ?_;refine Aab ?_;refine AQ ?_;refine Abc ?_
  refine B4 (C3 (vs:=[int P.c.f,int P.c.t,int P.c.s,int P.c.e,int P.c.r,int P.c.g,int P.c.l,int 0,str P.d,int P.e,int s.snd.busy,int s.snd.sr,.slice pa s.snd.K.length ka,int 0,int 3]) rfl rfl oneZ rfl takeZ (by show 16+15≤40; omega)) rfl rfl ?_
  rintro _ _ ⟨rfl,rfl⟩
  change JK _ _ _ (sng bs (.cells #[y0,y1,y2,y3,y4,y5,y6,y7,.slice pp P.picks.length cp,int P.limit,.slice pq P.dark.length cq,int s.ent,int s.dis,y13,y14,int s.now,int P.c.f,int P.c.t,int P.c.s,int P.c.e,int P.c.r,int P.c.g,int P.c.l,int 0,str P.d,int P.e,int s.snd.busy,int s.snd.sr,.slice pa s.snd.K.length ka,int 0,int 3,y31,y32,y33,y34,.slice pw s.wait.length cw,y36,y37,y38,y39] 101 (0,0))::_) _ _
  refine AE ?_;refine Acp ?_;refine Abh ?_;refine AB ?_;refine CG ?_;refine AS (ρ:=emp) takeZ ?_
  refine BJ (EC (by_:=96) (s:=9) (w0:=.slice none 0 0) (σ:=emp) (m:=0) (news:=[]) rfl rfl rfl rfl rfl rfl rfl hq0 takeZ ⟨rfl,.inl ⟨rfl,none,0,rfl⟩⟩ (fun b o h=>cellsR h memZ) (by simp) (by simp only [maxLen]; omega) (by omega)) rfl rfl rfl ?_
  rintro u2 _ ⟨σz,hQ,rfl⟩
  obtain ⟨pz,cz,rfl⟩:=hQ.form
  refine Abc ?_;refine BC ?_; rintro _ _ ⟨rfl,rfl⟩;refine AE ?_
  exact BV (H':=[sng bs (.cells #[y0,y1,y2,y3,y4,y5,y6,y7,.slice pp P.picks.length cp,int P.limit,.slice pq P.dark.length cq,int s.ent,int s.dis,y13,y14,int s.now,int P.c.f,int P.c.t,int P.c.s,int P.c.e,int P.c.r,int P.c.g,int P.c.l,int 0,str P.d,int P.e,int s.snd.busy,int s.snd.sr,.slice pa s.snd.K.length ka,int 0,int 3,y31,y32,y33,y34,.slice pz 0 cz,y36,y37,y38,y39] 101 (0,0)),σz]) (res0 rfl) rsubZ selZ ⟨rfl,pz,cz,σz,by rw [hwn]; exact hQ,by rw [hwn]; rfl⟩
 ·rw [if_neg (by omega)]
  dsimp only
  refine Ad2 ?_;refine Aab ?_;refine AQ ?_;refine Abc ?_
  refine B4 (C3 (vs:=[int P.c.f,int P.c.t,int P.c.s,int P.c.e,int P.c.r,int P.c.g,int P.c.l,int 0,str P.d,int P.e,int E,int (s.snd.sr+1),.slice pa s.snd.K.length ka,int (E+2*P.c.g+1),int 1]) rfl rfl oneZ rfl takeZ (by show 16+15≤40; omega)) rfl rfl ?_
  rintro _ _ ⟨rfl,rfl⟩
  change JK _ _ _ (sng bs (.cells #[y0,y1,y2,y3,y4,y5,y6,y7,.slice pp P.picks.length cp,int P.limit,.slice pq P.dark.length cq,int s.ent,int s.dis,y13,y14,int s.now,int P.c.f,int P.c.t,int P.c.s,int P.c.e,int P.c.r,int P.c.g,int P.c.l,int 0,str P.d,int P.e,int E,int (s.snd.sr+1),.slice pa s.snd.K.length ka,int (E+2*P.c.g+1),int 1,y31,y32,y33,y34,.slice pw s.wait.length cw,y36,y37,y38,y39] 101 (0,0))::_) _ _
  refine AE ?_;refine Acp ?_;refine Abh ?_;refine AB ?_;rw [← htl]
  refine BJ (EC (by_:=96) (s:=9) (w0:=.slice p4 (timed P.c.r s.now G).length c4) (σ:=σ4) (m:=(timed P.c.r s.now G).length) (news:=(timed P.c.r s.now G).flatMap (encO 0 P.d)) rfl rfl rfl rfl rfl rfl rfl hq0 takeZ hO4.at (fun b o h=>cellsH h memZ) (fun u hu=>by obtain ⟨y,_,hy⟩:=List.mem_flatMap.1 hu; exact encO_ones 0 P.d y u hy) (by rw [htl]; simp only [maxLen]; omega) (by rw [htl]; omega)) rfl rfl rfl ?_
  rintro u2 _ ⟨σz,hQ,rfl⟩
  obtain ⟨pz,cz,rfl⟩:=hQ.form
  refine Abc ?_;refine BC ?_; rintro _ _ ⟨rfl,rfl⟩;refine AE ?_
  exact BV (H':=[sng bs (.cells #[y0,y1,y2,y3,y4,y5,y6,y7,.slice pp P.picks.length cp,int P.limit,.slice pq P.dark.length cq,int s.ent,int s.dis,y13,y14,int s.now,int P.c.f,int P.c.t,int P.c.s,int P.c.e,int P.c.r,int P.c.g,int P.c.l,int 0,str P.d,int P.e,int E,int (s.snd.sr+1),.slice pa s.snd.K.length ka,int (E+2*P.c.g+1),int 1,y31,y32,y33,y34,.slice pz (timed P.c.r s.now G).length cz,y36,y37,y38,y39] 101 (0,0)),σz]) (res0 rfl) rsubZ selZ ⟨rfl,pz,cz,σz,by rw [hwn]; exact hQ,by rw [hwn]; rfl⟩
theorem RdN.drop1 {ρ:PH} {b o:Nat} {v:Value} {vs:List Value} (h:RdN ρ b (o+0*9) (v::vs)):RdP ρ b (o+1) vs:=⟨fun j u hu=>by have:=h (j+1) u (by simpa using hu); rw [show o+1+j=o+0*9+(j+1) by omega]; exact this⟩
structure Mm where
 F:List (Frm × Value)
 G:List (Frm × Value)
 O:List ((Int × Int × Iv) × Value)
 p0:Option Addr
 p1:Option Addr
 p2:Option Addr
 p3:Option Addr
 p4:Option Addr
 p5:Option Addr
 p6:Option Addr
 c0:Nat
 c1:Nat
 c2:Nat
 c3:Nat
 c4:Nat
 c5:Nat
 c6:Nat
structure S6 where
 a:PH
 b:PH
 c:PH
 d:PH
 e:PH
 f:PH
def sesB (pp pq:Option Addr) (cp cq:Nat) (P:Par) (s:Ss) (M:Mm) (bs:Nat):PH:=sng bs (.cells #[int P.c.g,.slice M.p0 M.F.length M.c0,int s.dat.sent,int s.dat.lost,int P.c.g,.slice M.p1 M.G.length M.c1,int s.rep.sent,int s.rep.lost,.slice pp P.picks.length cp,int P.limit,.slice pq P.dark.length cq,int s.ent,int s.dis,.slice M.p2 s.out0.length M.c2,.slice M.p3 M.O.length M.c3,int s.now,int P.c.f,int P.c.t,int P.c.s,int P.c.e,int P.c.r,int P.c.g,int P.c.l,int 0,str P.d,int P.e,int s.snd.busy,int s.snd.sr,.slice M.p4 s.snd.K.length M.c4,int s.snd.due,int s.snd.st,int 0,int (totR P.d s.K),.slice M.p5 s.K.length M.c5,str (datR P.d s.K),.slice M.p6 s.wait.length M.c6,.bool s.rcvd,int s.arr,.bool s.kn,int s.knAt] 101 (0,0))
structure MOK (P:Par) (s:Ss) (M:Mm) (σ:S6):Prop where
 d:OwnS 283 10 (.slice M.p0 M.F.length M.c0) M.F.length (M.F.flatMap (encF P.d)) σ.a
 dm:M.F.map (·.1)=s.dat.fr
 d1:∀ f∈M.F,f.2=.slice none 0 0
 r:OwnS 283 10 (.slice M.p1 M.G.length M.c1) M.G.length (M.G.flatMap (encF P.d)) σ.b
 rm:M.G.map (·.1)=s.rep.fr
 r1:∀ f∈M.G,∃ sr C p c,f.1.g=.rep sr C∧f.2=.slice p C.length c∧SpAt σ.f (.slice p C.length c) C
 o0:OwnS 56 9 (.slice M.p2 s.out0.length M.c2) s.out0.length (s.out0.flatMap (encO 0 P.d)) σ.c
 o1:OwnS 56 9 (.slice M.p3 M.O.length M.c3) M.O.length (M.O.flatMap (encR1 P.d)) σ.d
 om:M.O.map (·.1)=s.out1
 o2:∀ y∈M.O,∃ p c,y.2=.slice p y.1.2.2.length c∧SpAt σ.f (.slice p y.1.2.2.length c) y.1.2.2
 w:OwnQ 56 9 (.slice M.p6 s.wait.length M.c6) s.wait.length (s.wait.flatMap (encO 0 P.d)) σ.e
 a:SpAt σ.f (.slice M.p4 s.snd.K.length M.c4) s.snd.K
 k:SpAt σ.f (.slice M.p5 s.K.length M.c5) s.K
structure FixOK (P:Par) (t0:Int) (pp pq:Option Addr) (cp cq:Nat) (ρp ρd:PH):Prop where
 ok:okP P t0
 p:IntsAt ρp (.slice pp P.picks.length cp) P.picks
 pk:∀ x∈P.picks,-9223372036854775808≤x∧x≤9223372036854775807
 pl:P.picks.length≤1000
 q:SpAt ρd (.slice pq P.dark.length cq) P.dark
 q0:chkI P.dark=0
theorem trTransmit_spec {ρp ρd:PH} {P:Par} {t0:Int} {s:Ss} {pp pq:Option Addr} {cp cq:Nat} {M:Mm} {σ:S6} {ld lr lt:Int} (hF:FixOK P t0 pp pq cp cq ρp ρd) (hS:SI P t0 s ld lr s.now lt) (ht:t0<s.now) (hl:ld≤s.now+P.c.g) (hld:0≤ld) (hdis:0≤s.dis∧s.dis+s.wait.length≤1152921504606846976) (hM:MOK P s M σ) (bs:Nat) :
  Eng.Spec Tryz.prog (fv 139) [.pointer (some ⟨bs,0,none⟩)] [ρp,ρd] [sesB pp pq cp cq P s M bs,σ.a,σ.b,σ.c,σ.d,σ.e,σ.f] (fun r H'=>r=.tuple #[]∧∃ M' σ',MOK P (trM P s.wait s) M' σ'∧H'=[sesB pp pq cp cq P (trM P s.wait s) M' bs,σ'.a,σ'.b,σ'.c,σ'.d,σ'.e,σ'.f]):=by
 have hP:=hF.ok
 have h0:=hP.h0
 have h2:=hP.h2
 have hcs:=chkCt_se hP.hc
 have hcr:=chkCt_rg hP.hc
 refine spec_in (cap:=[]) Tryz.func139 rfl rfl Tryz.ntmps139 rfl envZ (fun N β=>?_)
 refine A5 ?_
 refine BU [0] (X:=Ss × Mm × S6) (s,M,σ) (fun z=>SI P t0 z.1 ld lr s.now lt∧z.1.now=s.now∧trM P z.1.wait z.1=trM P s.wait s∧MOK P z.1 z.2.1 z.2.2∧0≤z.1.dis∧z.1.dis+z.1.wait.length≤1152921504606846976) (fun _=>[]) (fun z=>[sesB pp pq cp cq P z.1 z.2.1 bs,z.2.2.a,z.2.2.b,z.2.2.c,z.2.2.d,z.2.2.e,z.2.2.f]) (fun z=>z.1.wait.length) pickZ ⟨hS,rfl,rfl,hM,hdis⟩ covZ selZ ?_
 rintro ⟨s1,⟨F,G,O,p0,p1,p2,p3,p4,p5,p6,c0,c1,c2,c3,c4,c5,c6⟩,σ1⟩ ⟨hS1,hn1,hR1,hM1,hd1⟩
 dsimp only at hS1 hn1 hR1 hM1 hd1 ⊢
 unfold sesB
 dsimp only
 rw [← hn1] at hS1
 have hw1:SlE (encO 0 P.d) 9 σ1.e (.slice p6 s1.wait.length c6) s1.wait:=OwnQ.at hM1.w
 obtain ⟨_,_,e0,hrw⟩:=hw1.val (encO_len 0 P.d)
 simp only [Value.slice.injEq] at e0
 obtain ⟨rfl,_,rfl⟩:=e0
 rcases hwt:s1.wait with _|⟨⟨t,x⟩,w⟩
 ·have hl0:s1.wait.length=0:=by rw [hwt]; rfl
  rw [← hwt];rw [trM_nil hwt] at hR1;refine Acv ?_
  refine BB P0Z [] rfl (by kernel_rfl) Sel.nil ?_
  refine Aa0 ?_;refine C1 ?_;refine D0 ?_;refine Acx ?_;refine Abd ?_;refine CB ?_;refine A8 ?_;refine Aay ?_
  exact BV (H':=[sng bs (.cells #[int P.c.g,.slice p0 F.length c0,int s1.dat.sent,int s1.dat.lost,int P.c.g,.slice p1 G.length c1,int s1.rep.sent,int s1.rep.lost,.slice pp P.picks.length cp,int P.limit,.slice pq P.dark.length cq,int s1.ent,int s1.dis,.slice p2 s1.out0.length c2,.slice p3 O.length c3,int s1.now,int P.c.f,int P.c.t,int P.c.s,int P.c.e,int P.c.r,int P.c.g,int P.c.l,int 0,str P.d,int P.e,int s1.snd.busy,int s1.snd.sr,.slice p4 s1.snd.K.length c4,int s1.snd.due,int s1.snd.st,int 0,int (totR P.d s1.K),.slice p5 s1.K.length c5,str (datR P.d s1.K),.slice p6 s1.wait.length c6,.bool s1.rcvd,int s1.arr,.bool s1.kn,int s1.knAt] 101 (0,0)),σ1.a,σ1.b,σ1.c,σ1.d,σ1.e,σ1.f]) (res0 rfl) rsubZ selZ ⟨rfl,⟨F,G,O,p0,p1,p2,p3,p4,p5,p6,c0,c1,c2,c3,c4,c5,c6⟩,σ1,by rw [← hR1]; exact hM1,by rw [← hR1]⟩
 have hl0:s1.wait.length=w.length+1:=by rw [hwt]; rfl
 obtain ⟨bw,ow,rfl,hR⟩:=hrw 0 (t,x) (by rw [hwt]; rfl)
 have z0:rdc σ1.e bw (ow+0*9)=some (int t):=RdN.get0 hR
 have z1:rdc σ1.e bw ow=some (int t):=by rw [Nat.zero_mul] at z0; exact z0
 have z2:RdP σ1.e bw (ow+1) [int 1,int 0,int x.sr,int (x.a:Int),int (P.d.length:Int),.bool (decide (1≤x.sr)),str (cutD P.d x.a x.b),.slice none 0 0]:=RdN.drop1 hR
 rw [← hwt]
 by_cases htn:t=s1.now
 rotate_left
 ·rw [trM_stop hwt htn] at hR1
  refine Acv ?_
  refine BB P0Z [] rfl (by kernel_rfl) Sel.nil ?_
  refine Aa0 ?_;refine C1 ?_;refine EW ?_;refine AL ?_;refine Aa0 ?_;refine D8 ?_;refine Ac1 ?_;refine Aa0 ?_;refine D9 ?_;refine BY ?_;refine A8 ?_;refine Aay ?_
  exact BV (H':=[sng bs (.cells #[int P.c.g,.slice p0 F.length c0,int s1.dat.sent,int s1.dat.lost,int P.c.g,.slice p1 G.length c1,int s1.rep.sent,int s1.rep.lost,.slice pp P.picks.length cp,int P.limit,.slice pq P.dark.length cq,int s1.ent,int s1.dis,.slice p2 s1.out0.length c2,.slice p3 O.length c3,int s1.now,int P.c.f,int P.c.t,int P.c.s,int P.c.e,int P.c.r,int P.c.g,int P.c.l,int 0,str P.d,int P.e,int s1.snd.busy,int s1.snd.sr,.slice p4 s1.snd.K.length c4,int s1.snd.due,int s1.snd.st,int 0,int (totR P.d s1.K),.slice p5 s1.K.length c5,str (datR P.d s1.K),.slice (some ⟨bw,ow,none⟩) s1.wait.length c6,.bool s1.rcvd,int s1.arr,.bool s1.kn,int s1.knAt] 101 (0,0)),σ1.a,σ1.b,σ1.c,σ1.d,σ1.e,σ1.f]) (res0 rfl) rsubZ selZ ⟨rfl,⟨F,G,O,p0,p1,p2,p3,p4,p5,(some ⟨bw,ow,none⟩),c0,c1,c2,c3,c4,c5,c6⟩,σ1,by rw [← hR1]; exact hM1,by rw [← hR1]⟩
 subst htn;refine Acv ?_
 refine BB P0Z [] rfl (by kernel_rfl) Sel.nil ?_
 refine Aa0 ?_;refine C1 ?_;refine EW ?_;refine AL ?_;refine Aa0 ?_;refine D8 ?_;refine Ac1 ?_;refine Aa0 ?_;refine ED ?_;refine BY ?_;refine A8 ?_;refine Aa1 ?_;refine A5 ?_;refine AD ?_
 have hSn:=trM1_ok hP (by omega) (by omega) hS1 hwt
 have hgo:=trM_go (P:=P) hwt rfl
 have hdd:=enter0_dis P s1 s1.now x
 obtain ⟨cd,dd,ed,od,hE⟩:=enter0_frame P s1 s1.now x
 have hlst:=hS1.dat.lst
 have hlst1:=hS1.rep.lst
 have hen:=hS1.en
 have hnw:=(hS1.wt (s1.now,x) (by rw [hwt]; simp)).2.1
 have hbz:=hS1.sn.b
 dsimp only at hnw
 have hsp:=trEnter0_spec (y4:=int P.c.g) (y5:=.slice p1 G.length c1) (y6:=int s1.rep.sent) (y7:=int s1.rep.lost) (y14:=.slice p3 O.length c3) (y15:=int s1.now) (y16:=int P.c.f) (y17:=int P.c.t) (y18:=int P.c.s) (y19:=int P.c.e) (y20:=int P.c.r) (y21:=int P.c.g) (y22:=int P.c.l) (y23:=int 0) (y24:=str P.d) (y25:=int P.e) (y26:=int s1.snd.busy) (y27:=int s1.snd.sr) (y28:=.slice p4 s1.snd.K.length c4) (y29:=int s1.snd.due) (y30:=int s1.snd.st) (y31:=int 0) (y32:=int (totR P.d s1.K)) (y33:=.slice p5 s1.K.length c5) (y34:=str (datR P.d s1.K)) (y35:=.slice (some ⟨bw,ow,none⟩) s1.wait.length c6) (y36:=.bool s1.rcvd) (y37:=int s1.arr) (y38:=.bool s1.kn) (y39:=int s1.knAt) (v:=.slice none 0 0) (x:=x) (t:=s1.now) hF.p hF.pk hF.pl hF.q hF.q0 ⟨by omega,by omega⟩ ⟨by omega,by omega⟩ ⟨by omega,by omega⟩ (delM_ok hP s1 s1.now) ⟨by omega,by omega⟩ hM1.d (fun f hf=>by rw [hM1.d1 f hf]; rfl) hM1.dm hS1.dat hld (by omega) (by omega) hM1.o0 rfl (by omega) rfl rfl bs
 rw [hE] at hsp hSn hgo hdd
 dsimp only at hsp hSn hdd hgo
 rw [hgo] at hR1
 refine BB (.q 0 (.q 1 (.q 2 (.q 3 (.q 4 (.q 5 (.q 6 (.q 7 (.q 8 (.q 9 (.q 10 (.q 11 (.q 12 (.q 13 (.q 14 (.q 15 (.q 16 (.q 17 (.l 18 .b .nil))))))))))))))))))) [] rfl (by kernel_rfl) Sel.nil ?_
 refine Acl ?_;refine Acl ?_;refine A2 ?_;refine Acg ?_;refine D8 ?_;refine C7 ?_
 focus ((refine CJ rfl (CX rfl rfl (cellsH z2.rd memZ) rfl) rfl rfl rfl rfl ?_))
 refine BQ (CH rfl hsp rfl rfl takesZ rdZ rfl rfl (fun _ _ _ w hw=>hw.sel Sel.nil) ?_)
 rintro _ _ ⟨rfl,F',p',c',σ',O',po',co',σo',e1,e2,hO',e3,hO2,rfl⟩;subst e3;refine A8 ?_;refine Acp ?_;refine Abh ?_
 focus ((refine BT (EO (i:=1) rfl rfl rfl rfl (by omega)) rfl rfl rfl ?_))
 refine Abc ?_;refine BC ?_; rintro _ _ ⟨rfl,rfl⟩;refine AE ?_;refine BH ?_
 have hwq:=hM1.w
 dsimp only at hwq
 rw [hwt] at hwq
 have hwq2:=OwnQ.cut hwq (encO_len 0 P.d _)
 have hlw:s1.wait.length-1=w.length:=by omega
 rw [hlw]
 exact BG (⟨cd,s1.rep,ed,dd,O',s1.out1,s1.now,s1.snd,s1.K,w,s1.rcvd,s1.arr,s1.kn,s1.knAt⟩,⟨F',G,O,p',p1,po',p3,p4,p5,_,c',c1,co',c3,c4,c5,c6-1⟩,⟨σ',σ1.b,σo',σ1.d,σ1.e,σ1.f⟩) ⟨by rw [← hn1]; exact hSn,hn1,hR1,⟨hO',e1,fun f hf=>(e2 f hf).elim (hM1.d1 f) (·.1),hM1.r,hM1.rm,hM1.r1,hO2,hM1.o1,hM1.om,hM1.o2,hwq2,hM1.a,hM1.k⟩,by dsimp only; omega,by dsimp only; omega⟩ (by dsimp only; omega) covZ selZ
def zSeg:List Value:=[int 0,int 0,int 0,int 0,int 0,.bool false,str [],.slice none 0 0]
def segO (d:List UInt8):Option Sg→List Value
 | none=>zSeg
 | some x=>encG 0 d x
theorem trGet0_spec {P:Par} {t0:Int} {s:Ss} {pp pq:Option Addr} {cp cq:Nat} {M:Mm} {σ:S6} {lr lw lt:Int} (hP:okP P t0) (hS:SI P t0 s s.now lr lw lt) (hrc:rcOK P s) (hn:0≤s.now) (hl:lr≤s.now+P.c.g) (hM:MOK P s M σ) (bs:Nat) :
  Eng.Spec Tryz.prog (fv 177) [.pointer (some ⟨bs,0,none⟩),.pointer (some ⟨bs,0,none⟩)] [] [sesB pp pq cp cq P s M bs,σ.a] (fun r H'=>((∀ n,dlvM P n s=s)∧r=.tuple #[.agg zSeg.toArray,.bool false]∧H'=[sesB pp pq cp cq P s M bs,σ.a]) ∨
   (∃ x l M' ρ',r=.tuple #[.agg (encG 0 P.d x).toArray,.bool true]∧okG P.d.length x∧s.dat.fr.length=l.length+1∧SI P t0 { s with dat:={ s.dat with fr:=l } } s.now lr lw lt∧SI P t0 (dlv1 P { s with dat:={ s.dat with fr:=l } } x) s.now lr lw lt∧rcOK P (dlv1 P { s with dat:={ s.dat with fr:=l } } x)∧(dlv1 P { s with dat:={ s.dat with fr:=l } } x).now=s.now∧dlvM P s.dat.fr.length s=dlvM P (dlv1 P { s with dat:={ s.dat with fr:=l } } x).dat.fr.length (dlv1 P { s with dat:={ s.dat with fr:=l } } x)∧s.now≤1099511627776∧MOK P { s with dat:={ s.dat with fr:=l } } M' { σ with a:=ρ' }∧H'=[sesB pp pq cp cq P { s with dat:={ s.dat with fr:=l } } M' bs,ρ'])):=by
 have hcr:=chkCt_rg hP.hc
 have h2:=hP.h2
 have hen:=hS.en
 have hl0:=hS.dat.lst
 have hl1:=hS.rep.lst
 have hC:ChOK s.now (P.e+2*P.c.g) P.d.length s.K true ⟨M.F.map (·.1),s.dat.sent,s.dat.lost⟩:=by rw [hM.dm]; exact hS.dat
 refine (trTake0_spec (rng:=P.c.g) (sent:=s.dat.sent) (lost:=s.dat.lost) (now:=s.now) (y4:=int P.c.g) (y5:=.slice M.p1 M.G.length M.c1) (y6:=int s.rep.sent) (y7:=int s.rep.lost) (y8:=.slice pp P.picks.length cp) (y9:=int P.limit) (y10:=.slice pq P.dark.length cq) (y11:=int s.ent) (y12:=int s.dis) (y13:=.slice M.p2 s.out0.length M.c2) (y14:=.slice M.p3 M.O.length M.c3) (y16:=int P.c.f) (y17:=int P.c.t) (y18:=int P.c.s) (y19:=int P.c.e) (y20:=int P.c.r) (y21:=int P.c.g) (y22:=int P.c.l) (y23:=int 0) (y24:=str P.d) (y25:=int P.e) (y26:=int s.snd.busy) (y27:=int s.snd.sr) (y28:=.slice M.p4 s.snd.K.length M.c4) (y29:=int s.snd.due) (y30:=int s.snd.st) (y31:=int 0) (y32:=int (totR P.d s.K)) (y33:=.slice M.p5 s.K.length M.c5) (y34:=str (datR P.d s.K)) (y35:=.slice M.p6 s.wait.length M.c6) (y36:=.bool s.rcvd) (y37:=int s.arr) (y38:=.bool s.kn) (y39:=int s.knAt) hM.d (fun f hf=>by rw [hM.d1 f hf]; rfl) hC hn (by omega) hcr.2.1 (by omega) bs).mono ?_
 rintro r H' (⟨ha,hb,hc⟩|⟨f,l,p',c',σ',e1,e2,e3,hO,e5⟩)
 ·refine .inl ⟨fun n=>dlvM_stop n (fun g l e=>?_),hb,hc⟩
  rw [← hM.dm] at e
  cases hF:M.F with
  | nil=>rw [hF] at e; cases e
  | cons x l' =>
   rw [hF] at e
   obtain ⟨rfl,_⟩:=List.cons.inj e
   exact ha x l' hF
 ·have ed:s.dat.fr=f.1::l.map (·.1):=by rw [← hM.dm,e1]; rfl
  obtain ⟨num,x,ef,hxo,hb,g1,g2,g3,g4⟩:=dlvS_ok hP hS hrc hn hl ed e2
  rw [ef] at e3 ed
  refine .inr ⟨x,l.map (·.1),{ M with F:=l,p0:=p',c0:=c' },σ',e3,hxo,by rw [ed]; rfl,g1,g2,g3,g4,dlvM_go ed rfl,hb,⟨hO,rfl,fun f hf=>hM.d1 f (by rw [e1]; exact List.mem_cons_of_mem _ hf),hM.r,hM.rm,hM.r1,hM.o0,hM.o1,hM.om,hM.o2,hM.w,hM.a,hM.k⟩,e5⟩
theorem trGet1_spec {P:Par} {t0:Int} {s:Ss} {pp pq:Option Addr} {cp cq:Nat} {M:Mm} {σ:S6} {ld lt:Int} (hP:okP P t0) (hS:SI P t0 s ld s.now (s.now+1) lt) (hn:0≤s.now) (hlt:lt≤s.now+1) (hM:MOK P s M σ) (bs:Nat) :
  Eng.Spec Tryz.prog (fv 177) [.pointer (some ⟨bs,0,none⟩),.pointer (some ⟨bs,4,none⟩)] [] [sesB pp pq cp cq P s M bs,σ.b] (fun r H'=>((∀ n,lsnM P n s=s)∧r=.tuple #[.agg zSeg.toArray,.bool false]∧H'=[sesB pp pq cp cq P s M bs,σ.b]) ∨
   (∃ sr C p c l M' ρ',r=.tuple #[.agg (encRp 0 sr P.d.length (.slice p C.length c)).toArray,.bool true]∧SpAt σ.f (.slice p C.length c) C∧InI P.d.length C∧subI C s.K∧(1≤sr∧sr≤1099511627776)∧s.rep.fr.length=l.length+1∧SI P t0 { s with rep:={ s.rep with fr:=l } } ld s.now (s.now+1) lt∧SI P t0 (lsn1 P { s with rep:={ s.rep with fr:=l } } sr C) ld s.now (s.now+1) lt∧(lsn1 P { s with rep:={ s.rep with fr:=l } } sr C).now=s.now∧lsnM P s.rep.fr.length s=lsnM P (lsn1 P { s with rep:={ s.rep with fr:=l } } sr C).rep.fr.length (lsn1 P { s with rep:={ s.rep with fr:=l } } sr C)∧s.now≤2199023255552∧MOK P { s with rep:={ s.rep with fr:=l } } M' { σ with b:=ρ' }∧H'=[sesB pp pq cp cq P { s with rep:={ s.rep with fr:=l } } M' bs,ρ'])):=by
 have hcr:=chkCt_rg hP.hc
 have h2:=hP.h2
 have hen:=hS.en
 have hl0:=hS.dat.lst
 have hl1:=hS.rep.lst
 have hC:ChOK s.now 2199023255552 P.d.length s.K false ⟨M.G.map (·.1),s.rep.sent,s.rep.lost⟩:=by rw [hM.rm]; exact hS.rep
 refine (trTake1_spec (rng:=P.c.g) (sent:=s.rep.sent) (lost:=s.rep.lost) (now:=s.now) (y0:=int P.c.g) (y1:=.slice M.p0 M.F.length M.c0) (y2:=int s.dat.sent) (y3:=int s.dat.lost) (y8:=.slice pp P.picks.length cp) (y9:=int P.limit) (y10:=.slice pq P.dark.length cq) (y11:=int s.ent) (y12:=int s.dis) (y13:=.slice M.p2 s.out0.length M.c2) (y14:=.slice M.p3 M.O.length M.c3) (y16:=int P.c.f) (y17:=int P.c.t) (y18:=int P.c.s) (y19:=int P.c.e) (y20:=int P.c.r) (y21:=int P.c.g) (y22:=int P.c.l) (y23:=int 0) (y24:=str P.d) (y25:=int P.e) (y26:=int s.snd.busy) (y27:=int s.snd.sr) (y28:=.slice M.p4 s.snd.K.length M.c4) (y29:=int s.snd.due) (y30:=int s.snd.st) (y31:=int 0) (y32:=int (totR P.d s.K)) (y33:=.slice M.p5 s.K.length M.c5) (y34:=str (datR P.d s.K)) (y35:=.slice M.p6 s.wait.length M.c6) (y36:=.bool s.rcvd) (y37:=int s.arr) (y38:=.bool s.kn) (y39:=int s.knAt) hM.r (fun f hf=>by obtain ⟨_,_,_,_,_,e,_⟩:=hM.r1 f hf; rw [e]; rfl) hC hn (by omega) hcr.2.1 (by omega) bs).mono ?_
 rintro r H' (⟨ha,hb,hc⟩|⟨f,l,p',c',σ',e1,e2,e3,hO,e5⟩)
 ·refine .inl ⟨fun n=>lsnM_stop n (fun g l e=>?_),hb,hc⟩
  rw [← hM.rm] at e
  cases hG:M.G with
  | nil=>rw [hG] at e; cases e
  | cons x l' =>
   rw [hG] at e
   obtain ⟨rfl,_⟩:=List.cons.inj e
   exact ha x l' hG
 ·have ed:s.rep.fr=f.1::l.map (·.1):=by rw [← hM.rm,e1]; rfl
  obtain ⟨num,sr,C,ef,hC1,hC2,hsr,g1,g2,g4⟩:=lsnS_ok hP hS hlt ed e2
  obtain ⟨sr',C',p,c,k1,k2,k3⟩:=hM.r1 f (by rw [e1]; simp)
  rw [ef] at e3 ed k1;simp only [Msg.rep.injEq] at k1
  obtain ⟨rfl,rfl⟩:=k1
  rw [k2] at e3
  have hb:s.now≤2199023255552:=by
   have:=(hS.rep.fr f.1 (by rw [ed,ef]; simp)).2.1
   rw [ef] at this;exact this
  refine .inr ⟨sr,C,p,c,l.map (·.1),{ M with G:=l,p1:=p',c1:=c' },σ',e3,k3,hC1,hC2,hsr,by rw [ed]; rfl,g1,g2,g4,lsnM_go ed rfl,hb,⟨hM.d,hM.dm,hM.d1,hO,rfl,fun f hf=>hM.r1 f (by rw [e1]; exact List.mem_cons_of_mem _ hf),hM.o0,hM.o1,hM.om,hM.o2,hM.w,hM.a,hM.k⟩,e5⟩
theorem rcvMerged_spec {ρ:PH} {se tot:Int} {d dat:List UInt8} {K:Iv} {p:Option Addr} {c:Nat} {x:Sg} {ck:Bool} (hv:SpAt ρ (.slice p K.length c) K) (hK:InI d.length K) (hn:d.length≤990) (hx:okG d.length x) :
  Makes Tryz.prog (fv 211) [.agg #[int se,int tot,.slice p K.length c,str dat],.agg #[int 1,int se,int x.sr,int (x.a:Int),int (d.length:Int),.bool ck,str (cutD d x.a x.b),.slice none 0 0]] [ρ] (fun r σ=>∃ p c,r=.tuple #[.slice p (unionI K [((x.a:Int),(x.b:Int))]).length c,int 0]∧OwnS 77 2 (.slice p (unionI K [((x.a:Int),(x.b:Int))]).length c) (unionI K [((x.a:Int),(x.b:Int))]).length ((unionI K [((x.a:Int),(x.b:Int))]).flatMap encS) σ):=by
 obtain ⟨h1,h2,h3,h4,h5⟩:=hx
 have hl:=cutD_len (Nat.le_of_lt h1) h2
 have hKl:=hK.len (by omega)
 have h1':InI d.length [((x.a:Int),(x.b:Int))]:=⟨⟨by simp; omega,List.pairwise_singleton _ _⟩,fun t ht=>by rw [mem_one,decide_eq_true_iff] at ht; omega⟩
 have hU:=fun bn=>snUnion_spec ρ (sng bn (.cells #[int (x.a:Int),int (x.b:Int)] 77 (0,0))) _ (.slice (some ⟨bn,0,none⟩) 1 1) K [((x.a:Int),(x.b:Int))] hv (slE_sng (l:=[((x.a:Int),(x.b:Int))]) encS_len) (hK.chk (by omega) (by omega)) (h1'.chk (by omega) (by omega)) (by simp; omega)
 refine spec_in (cap:=[]) Tryz.func211 rfl rfl Tryz.ntmps211 rfl envZ (fun N β=>?_)
 refine Aa ?_;refine BJ (BL rfl) rfl rfl rfl ?_;rintro _ _ ⟨br,rfl,rfl⟩;refine AS (ρ:=sng br _) takeZ ?_
 have cr:=rdB br 99 [int se,int tot,.slice p K.length c,str dat]
 have cr0:=rdC cr 0
 have cr1:=rdC cr 1
 have cr2:=rdC cr 2
 have cr3:=rdC cr 3
 refine BJ (BL rfl) rfl rfl rfl ?_;rintro _ _ ⟨bx,rfl,rfl⟩;refine AS (ρ:=sng bx _) takeZ ?_
 have cx:=rdB bx 54 [int 1,int se,int x.sr,int (x.a:Int),int (d.length:Int),.bool ck,str (cutD d x.a x.b),.slice none 0 0]
 have cx0:=rdC cx 0
 have cx1:=rdC cx 1
 have cx2:=rdC cx 2
 have cx3:=rdC cx 3
 have cx4:=rdC cx 4
 have cx5:=rdC cx 5
 have cx6:=rdC cx 6
 have cx7:=rdC cx 7
 refine Aaj ?_;refine Aam ?_;refine Aad ?_;refine Aad ?_;refine Aad ?_
 focus ((refine' BT _ rfl rfl rfl _; rotate_left; (apply B0; exact rfl; exact rfl)))
 refine CD ?_;refine B6 ?_;refine BN ?_; rintro _ _ ⟨b,rfl,rfl⟩
 have eb:(x.a:Int)+((cutD d x.a x.b).length:Int)=(x.b:Int):=by omega
 rw [eb]
 skip
 revert b; intro bn
 refine B8 (hU bn) rfl rfl rdZ rfl rfl ?_;rintro _ σ ⟨p',c',rfl,hO⟩;refine Aax ?_;exact AK (res2 rfl rfl rfl) rsubZ selZ ⟨σ,⟨p',c',rfl,hO⟩,rfl⟩
theorem rcvSuits1_spec {se tot:Int} {d dat:List UInt8} {K:Iv} {p:Option Addr} {c:Nat} {x:Sg} {ck:Bool} (br bx:Nat) :
  Ans Tryz.prog (.func (.func 237) #[] #[.pointer (some ⟨bx,0,none⟩),.pointer (some ⟨br,0,none⟩)]) [] [sng bx (.cells #[int 1,int se,int x.sr,int (x.a:Int),int (d.length:Int),.bool ck,str (cutD d x.a x.b),.slice none 0 0] 54 (0,0)),sng br (.cells #[int se,int tot,.slice p K.length c,str dat] 99 (0,0))] (fun r=>r=.bool true):=by
 have bx74_3:=rdB bx 54 [int 1,int se,int x.sr,int (x.a:Int),int (d.length:Int),.bool ck,str (cutD d x.a x.b),.slice none 0 0]
 have x0:=rdC bx74_3 0
 have x1:=rdC bx74_3 1
 have bx76_3:=rdB br 99 [int se,int tot,.slice p K.length c,str dat]
 have r0:=rdC bx76_3 0
 refine spec_in (cap:=[.pointer (some ⟨bx,0,none⟩),.pointer (some ⟨br,0,none⟩)]) Tryz.func237 rfl rfl Tryz.ntmps237 rfl envZ (fun N β=>?_)
 refine Aal ?_;refine Aam ?_;refine CN ?_;refine Ab3 ?_;refine CN ?_;refine Abm ?_;exact A9 ⟨rfl,rfl⟩
theorem rcvSuits2_spec {se tot:Int} {d dat:List UInt8} {K:Iv} {p:Option Addr} {c:Nat} {x:Sg} {ck:Bool} (br bx:Nat) (ht:tot = -1∨tot=(d.length:Int)) :
  Ans Tryz.prog (.func (.func 238) #[] #[.pointer (some ⟨br,0,none⟩),.pointer (some ⟨bx,0,none⟩)]) [] [sng bx (.cells #[int 1,int se,int x.sr,int (x.a:Int),int (d.length:Int),.bool ck,str (cutD d x.a x.b),.slice none 0 0] 54 (0,0)),sng br (.cells #[int se,int tot,.slice p K.length c,str dat] 99 (0,0))] (fun r=>r=.bool true):=by
 have bx99_3:=rdB bx 54 [int 1,int se,int x.sr,int (x.a:Int),int (d.length:Int),.bool ck,str (cutD d x.a x.b),.slice none 0 0]
 have x4:=rdC bx99_3 4
 have bx100_3:=rdB br 99 [int se,int tot,.slice p K.length c,str dat]
 have r1:=rdC bx100_3 1
 refine spec_in (cap:=[.pointer (some ⟨br,0,none⟩),.pointer (some ⟨bx,0,none⟩)]) Tryz.func238 rfl rfl Tryz.ntmps238 rfl envZ (fun N β=>?_)
 by_cases h1:tot = -1
 ·refine AD ?_
  refine AA ?_;refine Abu ?_;refine CN ?_;refine Acf ?_;refine Abm ?_;exact A9 ⟨rfl,rfl⟩
 ·refine AD ?_
  refine AA ?_;refine Abu ?_;refine B9 ?_;refine Ab3 ?_;refine CN ?_;refine Ac2 ?_;exact A9 ⟨rfl,rfl⟩
theorem rcvSuits3_spec {ρ:PH} {se tot:Int} {d dat:List UInt8} {K:Iv} {p:Option Addr} {c:Nat} {x:Sg} {ck:Bool} (hv:SpAt ρ (.slice p K.length c) K) (hK:InI d.length K) (hn:d.length≤990) (hx:okG d.length x) (hd:K≠[]→dat=maskD d K) (br bx:Nat) :
  Ans Tryz.prog (.func (.func 239) #[] #[.pointer (some ⟨br,0,none⟩),.pointer (some ⟨bx,0,none⟩)]) [] [sng bx (.cells #[int 1,int se,int x.sr,int (x.a:Int),int (d.length:Int),.bool ck,str (cutD d x.a x.b),.slice none 0 0] 54 (0,0)),sng br (.cells #[int se,int tot,.slice p K.length c,str dat] 99 (0,0)),ρ] (fun r=>r=.bool true):=by
 obtain ⟨h1,h2,h3,h4,h5⟩:=hx
 have hl:=cutD_len (Nat.le_of_lt h1) h2
 have hKl:=hK.len (by omega)
 obtain ⟨q,cc,e0,hr⟩:=hv.val encS_len
 simp only [Value.slice.injEq] at e0
 obtain ⟨rfl,_,rfl⟩:=e0
 have bx149_3:=rdB bx 54 [int 1,int se,int x.sr,int (x.a:Int),int (d.length:Int),.bool ck,str (cutD d x.a x.b),.slice none 0 0]
 have x3:=rdC bx149_3 3
 have x6:=rdC bx149_3 6
 have bx151_3:=rdB br 99 [int se,int tot,.slice p K.length c,str dat]
 have r2:=rdC bx151_3 2
 have r3:=rdC bx151_3 3
 refine spec_in (cap:=[.pointer (some ⟨br,0,none⟩),.pointer (some ⟨bx,0,none⟩)]) Tryz.func239 rfl rfl Tryz.ntmps239 rfl envZ (fun N β=>?_)
 refine Aal ?_;refine Abg ?_;refine Aby ?_
 refine BU [0,1,2,8,9] (0:Nat) (fun k=>k≤K.length) (fun k=>[(10,int k)]) (fun _=>[]) (fun k=>K.length-k) pickZ (Nat.zero_le _) covZ selZ ?_
 rintro k hk
 by_cases hlt:k<K.length
 rotate_left
 ·have hke:k=K.length:=by omega
  subst hke;refine Ab5 ?_;refine Aal ?_;exact A9 ⟨rfl,rfl⟩
 have hkx:=List.getElem?_eq_getElem hlt
 have hka:=hK.at _ (List.getElem_mem hlt)
 have hmem:=List.getElem_mem hlt
 have hne:K≠[]:=fun h=>by rw [h] at hlt; simp at hlt
 have hdd:=hd hne
 obtain ⟨b7,o7,rfl,hrd7,z0,z1⟩:=spRow hr hkx
 generalize K[k]=y at hkx hka hmem hrd7 z0 z1
 obtain ⟨aa,ha⟩:∃ a:Nat,y.1=(a:Int):=⟨y.1.toNat,by omega⟩
 obtain ⟨ee,he⟩:∃ a:Nat,y.2=(a:Int):=⟨y.2.toNat,by omega⟩
 rw [ha,he] at hrd7;rw [ha] at z0;rw [he] at z1;refine Ade ?_;refine A4 ?_; rintro _ _ ⟨b,rfl,rfl⟩;refine AY ?_; rintro _ _ ⟨rfl,rfl⟩;refine Aap ?_
 revert b; intro b6
 refine AS (ρ:=sng b6 _) takeZ ?_
 have bx216_3:=rdB b6 77 [int (aa:Int),int (ee:Int)]
 have m0:=rdC bx216_3 0
 have m1:=rdC bx216_3 1
 refine BB P1Z [] rfl (by kernel_rfl) selZ ?_
 refine Adk ?_;refine F6 ?_;refine Adk ?_;refine Aan ?_
 focus ((refine' CJ rfl _ rfl rfl rfl rfl _; rotate_left; (apply B0; exact rfl; exact rfl)))
 refine DI ?_;refine zd_min ?_;refine Abo ?_
 have eb:(x.a:Int)+((cutD d x.a x.b).length:Int)=(x.b:Int):=by omega
 rw [eb]
 have ef:max (aa:Int) (x.a:Int)=((max aa x.a:Nat):Int):=by omega
 have et:min (ee:Int) (x.b:Int)=((min ee x.b:Nat):Int):=by omega
 rw [ef,et]
 generalize hfv:max aa x.a=f
 generalize htv:min ee x.b=t
 refine AD ?_
 refine BB (.q 0 (.q 1 (.q 2 (.q 3 (.q 4 (.q 5 (.q 6 (.q 7 (.q 8 (.q 9 (.q 10 (.q 11 (.q 12 (.q 13 (.q 14 (.q 15 (.q 16 (.q 17 (.q 18 (.q 19 (.q 20 (.q 21 .nil)))))))))))))))))))))) [] rfl (by kernel_rfl) selZ ?_
 by_cases hft:f<t
 ·have hcc:=cut_cut (d:=d) (a:=x.a) (b:=x.b) (f:=f) (t:=t) (by omega) (by omega) (by omega)
  have hmp:=maskD_piece (d:=d) (K:=K) (x:=f) (y:=t) (by omega) (by omega) (fun u g1 g2=>memI_iff.2 ⟨y,hmem,by omega,by omega⟩)
  have hlm:=maskD_len d K
  rw [← hdd] at hmp hlm
  have es1:(f:Int)-(x.a:Int)=((f-x.a:Nat):Int):=by omega
  have es2:(t:Int)-(x.a:Int)=((t-x.a:Nat):Int):=by omega
  refine Abp ?_;refine F3 ?_;refine Ab2 ?_;refine Abp ?_
  refine CJ rfl (FO (i:=f) (j:=t) rfl rfl rfl rfl (by omega) (by omega)) rfl rfl rfl rfl ?_
  rw [hmp];refine Aan ?_;refine Ab2 ?_;refine EG ?_;refine Ab2 ?_;refine EG ?_;rw [es1]
  skip
  rw [es2]
  refine CJ rfl (FO (i:=f-x.a) (j:=t-x.a) rfl rfl rfl rfl (by omega) (by omega)) rfl rfl rfl rfl ?_
  rw [hcc];refine CJ rfl (q_neT rfl rfl) rfl rfl rfl rfl ?_;rw [beq_self_eq_true];refine BY ?_;refine Adu ?_;refine CR ?_
  exact BG (k+1) (by omega) (by omega) covZ selZ
 ·refine AL ?_
  refine AL ?_;refine DR ?_;refine Acx ?_;refine Ace ?_;refine Acj ?_;refine Adu ?_;refine CR ?_
  exact BG (k+1) (by omega) (by omega) covZ selZ
theorem rcvSuits4_spec {ρ:PH} {se tot:Int} {d dat:List UInt8} {K:Iv} {p:Option Addr} {c:Nat} {x:Sg} {ck:Bool} (hv:SpAt ρ (.slice p K.length c) K) (hK:InI d.length K) (hn:d.length≤990) (hx:okG d.length x) (br bx:Nat) :
  Ans Tryz.prog (.func (.func 240) #[] #[.pointer (some ⟨br,0,none⟩),.pointer (some ⟨bx,0,none⟩)]) [] [sng bx (.cells #[int 1,int se,int x.sr,int (x.a:Int),int (d.length:Int),.bool ck,str (cutD d x.a x.b),.slice none 0 0] 54 (0,0)),sng br (.cells #[int se,int tot,.slice p K.length c,str dat] 99 (0,0)),ρ] (fun r=>r=.bool true):=by
 have hm:=rcvMerged_spec (se:=se) (tot:=tot) (dat:=dat) (ck:=ck) hv hK hn hx
 have xw:=rdB bx 54 [int 1,int se,int x.sr,int (x.a:Int),int (d.length:Int),.bool ck,str (cutD d x.a x.b),.slice none 0 0]
 have rw':RdN (sng br (.cells #[int se,int tot,.slice p K.length c,str dat] 99 (0,0))) br 0 [int se,int tot,.slice p K.length c,str dat]:=rdN_sng (vs:=[int se,int tot,.slice p K.length c,str dat])
 refine spec_in (cap:=[.pointer (some ⟨br,0,none⟩),.pointer (some ⟨bx,0,none⟩)]) Tryz.func240 rfl rfl Tryz.ntmps240 rfl envZ (fun N β=>?_)
 refine Aal ?_;refine Aau ?_;refine AQ ?_;refine B8 hm rfl rfl rdZ rfl rfl ?_;rintro _ σ ⟨p',c',rfl,hO⟩;refine Aa7 ?_;refine Aab ?_;refine CN ?_;refine Aaa ?_;exact A9 ⟨rfl,rfl⟩
theorem rcvSuits_spec {ρ:PH} {se tot:Int} {d dat:List UInt8} {K:Iv} {p:Option Addr} {c:Nat} {x:Sg} {ck:Bool} (hv:SpAt ρ (.slice p K.length c) K) (hK:InI d.length K) (hn:d.length≤990) (hx:okG d.length x) (hd:K≠[]→dat=maskD d K) (ht:tot = -1∨tot=(d.length:Int)) :
  Ans Tryz.prog (fv 210) [.agg #[int se,int tot,.slice p K.length c,str dat],.agg #[int 1,int se,int x.sr,int (x.a:Int),int (d.length:Int),.bool ck,str (cutD d x.a x.b),.slice none 0 0]] [ρ] (fun r=>r=.bool true):=by
 have hs1:=fun br bx=>rcvSuits1_spec (se:=se) (tot:=tot) (d:=d) (dat:=dat) (K:=K) (p:=p) (c:=c) (x:=x) (ck:=ck) br bx
 have hs2:=fun br bx=>rcvSuits2_spec (se:=se) (tot:=tot) (d:=d) (dat:=dat) (K:=K) (p:=p) (c:=c) (x:=x) (ck:=ck) br bx ht
 have hs3:=fun br bx=>rcvSuits3_spec (se:=se) (tot:=tot) (ck:=ck) hv hK hn hx hd br bx
 have hs4:=fun br bx=>rcvSuits4_spec (se:=se) (tot:=tot) (dat:=dat) (ck:=ck) hv hK hn hx br bx
 refine spec_in (cap:=[]) Tryz.func210 rfl rfl Tryz.ntmps210 rfl envZ (fun N β=>?_)
 refine Aa ?_;refine BJ (BL rfl) rfl rfl rfl ?_;rintro _ _ ⟨br,rfl,rfl⟩;refine AS (ρ:=sng br _) takeZ ?_
 have cr:=rdB br 99 [int se,int tot,.slice p K.length c,str dat]
 have cr0:=rdC cr 0
 have cr1:=rdC cr 1
 have cr2:=rdC cr 2
 have cr3:=rdC cr 3
 refine BJ (BL rfl) rfl rfl rfl ?_;rintro _ _ ⟨bx,rfl,rfl⟩;refine AS (ρ:=sng bx _) takeZ ?_
 have cx:=rdB bx 54 [int 1,int se,int x.sr,int (x.a:Int),int (d.length:Int),.bool ck,str (cutD d x.a x.b),.slice none 0 0]
 have cx0:=rdC cx 0
 have cx1:=rdC cx 1
 have cx2:=rdC cx 2
 have cx3:=rdC cx 3
 have cx4:=rdC cx 4
 have cx5:=rdC cx 5
 have cx6:=rdC cx 6
 have cx7:=rdC cx 7
 refine Ad ?_;refine Aa ?_;refine BZ ?_;refine BZ ?_;refine BZ ?_;refine BZ ?_;refine BN ?_; rintro _ _ ⟨b,rfl,rfl⟩;refine Aby ?_
 revert b; intro bf
 refine AS (ρ:=sng bf _) takeZ ?_
 have bx396_3:=rdB bf 30 [(.func (.func 237) #[] #[.pointer (some ⟨bx,0,none⟩),.pointer (some ⟨br,0,none⟩)]),(.func (.func 238) #[] #[.pointer (some ⟨br,0,none⟩),.pointer (some ⟨bx,0,none⟩)]),(.func (.func 239) #[] #[.pointer (some ⟨br,0,none⟩),.pointer (some ⟨bx,0,none⟩)]),(.func (.func 240) #[] #[.pointer (some ⟨br,0,none⟩),.pointer (some ⟨bx,0,none⟩)])]
 have f0:=rdC bx396_3 0
 have f1:=rdC bx396_3 1
 have f2:=rdC bx396_3 2
 have f3:=rdC bx396_3 3
 refine BU [4,11,12] (0:Nat) (fun k=>k≤4) (fun k=>[(13,int k)]) (fun _=>[]) (fun k=>4-k) pickZ (Nat.zero_le _) covZ selZ ?_
 rintro k hk4
 have hk:k=0∨k=1∨k=2∨k=3∨k=4:=by omega
 rcases hk with hk|hk|hk|hk|hk
 ·subst hk
  refine Acc ?_;refine DH ?_;refine AF ?_;refine Abv ?_;refine AT (hs1 br bx) rfl rfl rdZ rfl rfl ?_;rintro _ rfl;refine Abr ?_;refine Abf ?_
  exact BG 1 (by omega) (by omega) covZ selZ
 ·subst hk
  refine Acc ?_;refine DH ?_;refine AF ?_;refine Abv ?_;refine AT (hs2 br bx) rfl rfl rdZ rfl rfl ?_;rintro _ rfl;refine Abr ?_;refine Abf ?_
  exact BG 2 (by omega) (by omega) covZ selZ
 ·subst hk
  refine Acc ?_;refine DH ?_;refine AF ?_;refine Abv ?_;refine AT (hs3 br bx) rfl rfl rdZ rfl rfl ?_;rintro _ rfl;refine Abr ?_;refine Abf ?_
  exact BG 3 (by omega) (by omega) covZ selZ
 ·subst hk
  refine Acc ?_;refine DH ?_;refine AF ?_;refine Abv ?_;refine AT (hs4 br bx) rfl rfl rdZ rfl rfl ?_;rintro _ rfl;refine Abr ?_;refine Abf ?_
  exact BG 4 (by omega) (by omega) covZ selZ
 ·subst hk
  refine Ab5 ?_;refine Aal ?_;exact A9 ⟨rfl,rfl⟩
theorem rcvHear_spec {ρ:PH} {se:Int} {d:List UInt8} {K:Iv} {p:Option Addr} {c:Nat} {x:Sg} (hv:SpAt ρ (.slice p K.length c) K) (hK:InI d.length K) (hn1:1≤d.length) (hn:d.length≤990) (hse:0≤se∧se≤1099511627776) (hx:okG d.length x) :
    Eng.Spec Tryz.prog (fv 178) [.agg #[int se,int (totR d K),.slice p K.length c,str (datR d K)],.agg #[int 1,int se,int x.sr,int (x.a:Int),int (d.length:Int),.bool (decide (1≤x.sr)),str (cutD d x.a x.b),.slice none 0 0]] [ρ] [] (fun r H'=>∃ p1 c1 σ1,OwnS 77 2 (.slice p1 (unionI K [((x.a:Int),(x.b:Int))]).length c1) (unionI K [((x.a:Int),(x.b:Int))]).length ((unionI K [((x.a:Int),(x.b:Int))]).flatMap encS) σ1 ∧
      ((¬ 1≤x.sr∧r=.tuple #[.agg #[int se,int (d.length:Int),.slice p1 (unionI K [((x.a:Int),(x.b:Int))]).length c1,str (maskD d (unionI K [((x.a:Int),(x.b:Int))]))],.slice none 0 0,int 0]∧H'=[σ1]) ∨
       (1≤x.sr∧∃ p2 c2 σ2 bn,OwnS 77 2 (.slice p2 (unionI K [((x.a:Int),(x.b:Int))]).length c2) (unionI K [((x.a:Int),(x.b:Int))]).length ((unionI K [((x.a:Int),(x.b:Int))]).flatMap encS) σ2∧r=.tuple #[.agg #[int se,int (d.length:Int),.slice p1 (unionI K [((x.a:Int),(x.b:Int))]).length c1,str (maskD d (unionI K [((x.a:Int),(x.b:Int))]))],.slice (some ⟨bn,0,none⟩) 1 1,int 0]∧H'=[sng bn (.cells #[int 2,int se,int x.sr,int 0,int (d.length:Int),.bool false,str [],.slice p2 (unionI K [((x.a:Int),(x.b:Int))]).length c2] 54 (0,0)),σ2,σ1]))):=by
  have hc:=rcvChk_spec hv hK hn1 hn hse
  have hsg:=segChk_spec hx (by omega) hse
  have ht:totR d K = -1∨totR d K=(d.length:Int):=by unfold totR; split <;> simp
  have hd:K≠[]→datR d K=maskD d K:=fun h=>if_neg h
  have hsu:=rcvSuits_spec (se:=se) (tot:=totR d K) (dat:=datR d K) (ck:=decide (1≤x.sr)) hv hK hn hx hd ht
  have hme:=rcvMerged_spec (se:=se) (tot:=totR d K) (dat:=datR d K) (ck:=decide (1≤x.sr)) hv hK hn hx
  have hcd:=copy_dat d K
  have hcp:=copy_piece (d:=d) (K:=K) hx.1 hx.2.1
  have hcp:=hcp.resolve_right (fun h=>h hK.1)
  obtain ⟨hKU,_,hKne⟩:=hK.put (a:=(x.a:Int)) (b:=(x.b:Int)) (by omega) (by have:=hx.1; omega) (by have:=hx.2.1; omega)
  have hdl:=datR_le d K
  have hml:=maskD_len d K
  have hml2:=maskD_len d (unionI K [((x.a:Int),(x.b:Int))])
  have hKUl:=hKU.len (by omega)
  obtain ⟨h1,h2,h3,h4,h5⟩:=hx
  have hl:=cutD_len (Nat.le_of_lt h1) h2
  generalize hck:decide (1≤x.sr)=ck at hsg hsu hme ⊢
  refine spec_in (cap:=[]) Tryz.func178 rfl rfl Tryz.ntmps178 rfl envZ (fun N β=>?_)
  refine Aa ?_;refine BJ (BL rfl) rfl rfl rfl ?_;rintro _ _ ⟨b2,rfl,rfl⟩;refine BJ (BL rfl) rfl rfl rfl ?_;rintro _ _ ⟨b3,rfl,rfl⟩;refine AS (ρ:=sng b3 _) takeZ ?_
  have cx:=rdB b3 54 [int 1,int se,int x.sr,int (x.a:Int),int (d.length:Int),.bool ck,str (cutD d x.a x.b),.slice none 0 0]
  have cx0:=rdC cx 0
  have cx1:=rdC cx 1
  have cx2:=rdC cx 2
  have cx3:=rdC cx 3
  have cx4:=rdC cx 4
  have cx5:=rdC cx 5
  have cx6:=rdC cx 6
  have cx7:=rdC cx 7
  refine A4 ?_; rintro _ _ ⟨b,rfl,rfl⟩;refine Ac6 ?_
  revert b; intro b4
  refine AT hc rfl rfl rdZ rfl rfl ?_;rintro _ rfl;refine BM ?_;refine AB ?_;refine AQ ?_;refine AT hsg rfl rfl rdZ rfl rfl ?_;rintro _ rfl;refine Adb ?_;refine Abz ?_;refine AQ ?_;refine AT hsu rfl rfl rdZ rfl rfl ?_;rintro _ rfl;refine Abr ?_;refine Aau ?_;refine AQ ?_;refine B8 hme rfl rfl rdZ rfl rfl ?_;rintro _ σ1 ⟨p1,c1,rfl,hO1⟩;refine Aa7 ?_;refine Aam ?_
  refine BJ (GY rfl rfl rfl rfl rfl rfl (by omega)) rfl rfl rfl ?_
  rintro _ _ ⟨b9,rfl,rfl⟩;refine Abv ?_;refine Aad ?_
  refine BJ (F8 (o:=0) (dl:=d.length) (l:=datR d K) rfl rfl rfl rfl takeZ (by rw [List.size_toArray,rowS_len,List.length_replicate,Nat.zero_add]; exact Nat.min_le_right _ _)) rfl rfl rfl ?_
  rintro _ _ ⟨rfl,rfl⟩;rw [List.toList_toArray,hcd];refine Aap ?_
  have ec:cutP (some ⟨b9,0,none⟩) d.length x.a 1=some ⟨b9,x.a,none⟩:=cutP_one (by omega)
  refine BB (.q 0 (.q 1 (.q 2 (.q 3 (.q 4 (.q 5 (.l 6 .b .nil))))))) [] rfl (by kernel_rfl) Sel.nil ?_
  refine Ab2 ?_;refine CZ ?_;refine Aan ?_
  refine BQ (a_b rfl (F8 (b:=b9) (o:=x.a) (dl:=d.length-x.a) (dc:=d.length-x.a) (l:=cutD d x.a x.b) (by show some (Value.slice (cutP (some ⟨b9,0,none⟩) d.length x.a 1) _ _)=_; rw [ec]) rfl rfl rfl takeZ (by
    rw [List.size_toArray,rowS_len,hml]
    have:Nat.min (cutD d x.a x.b).length (d.length-x.a)≤d.length-x.a:=Nat.min_le_right _ _
    omega)) rfl rfl rfl (fun _ _ _ w hw=>hw.sel Sel.nil) ?_)
  rintro _ _ ⟨rfl,rfl⟩;rw [List.toList_toArray,hcp];refine A8 ?_;refine AD ?_
  refine BB (.q 0 (.q 1 (.p 2 (.p 3 (.p 4 (.q 5 (.l 6 .b (.q 7 (.l 8 .b (.q 9 (.l 10 .b .nil))))))))))) [sng b9 _] rfl (by kernel_rfl) selZ ?_
  refine Aan ?_;refine DB ?_;refine DB ?_
  refine GF rfl (q_b2s (l:=maskD d (unionI K [((x.a:Int),(x.b:Int))])) (b:=b9) (o:=0) (by rw [hml2]; exact rfl) (cells_own memZ) rfl rfl rfl) rfl rfl rfl ?_
  refine A2 ?_;refine CT ?_; rintro _ _ ⟨rfl,rfl⟩;refine A2 ?_;refine CT ?_; rintro _ _ ⟨rfl,rfl⟩;refine A2 ?_;refine CT ?_; rintro _ _ ⟨rfl,rfl⟩;refine A8 ?_;refine Abg ?_;refine BE ?_;refine AE ?_;refine AS (ρ:=sng b2 (.cells #[int se,int (d.length:Int),.slice p1 (unionI K [((x.a:Int),(x.b:Int))]).length c1,str (maskD d (unionI K [((x.a:Int),(x.b:Int))]))] 99 (0,0))) takeZ ?_
  have cr:=rdB b2 99 [int se,int (d.length:Int),.slice p1 (unionI K [((x.a:Int),(x.b:Int))]).length c1,str (maskD d (unionI K [((x.a:Int),(x.b:Int))]))]
  have cr0:=rdC cr 0
  have cr1:=rdC cr 1
  cases ck with
  | false =>
    have hs:¬ 1≤x.sr:=of_decide_eq_false hck
    refine AW rfl ?_;refine Aau ?_;refine AY ?_; rintro _ _ ⟨rfl,rfl⟩;refine Aaj ?_;exact AK (H':=[σ1]) (resSEE (b1:=b4) (T:=99) (v1:=[int se,int (d.length:Int),.slice p1 (unionI K [((x.a:Int),(x.b:Int))]).length c1,str (maskD d (unionI K [((x.a:Int),(x.b:Int))]))]) rfl rfl rfl rfl rfl rfl (cells_own memZ)) rsubZ selZ ⟨p1,c1,σ1,hO1,.inl ⟨hs,rfl,rfl⟩⟩
  | true =>
    have hs:1≤x.sr:=of_decide_eq_true hck
    refine Aaf ?_;refine AD ?_
    refine DG (X:=Nat × Option Addr × Nat × PH) [2,4] (fun z=>OwnS 77 2 (.slice z.2.1 (unionI K [((x.a:Int),(x.b:Int))]).length z.2.2.1) (unionI K [((x.a:Int),(x.b:Int))]).length ((unionI K [((x.a:Int),(x.b:Int))]).flatMap encS) z.2.2.2) (fun z=>[(10,.pointer (some ⟨z.1,0,none⟩)),(11,int 0)]) (fun z=>[sng z.1 (.cells #[int 2,int se,int x.sr,int 0,int (d.length:Int),.bool false,str [],.slice z.2.1 (unionI K [((x.a:Int),(x.b:Int))]).length z.2.2.1] 54 (0,0)),z.2.2.2,sng b4 (.cells #[int 0,int 0,.slice none 0 0,str []] 99 (0,0)),σ1]) pickZ ?_ ?_
    · refine BB (.q 0 (.q 1 (.q 2 (.q 3 (.q 4 (.q 5 (.q 6 (.l2 7 .e (.l2 8 .e (.q 9 (.q 10 (.p 11 (.l 12 .e (.l 13 .b (.q 14 .nil)))))) 12 .e (.l 8 .e (.q 9 (.q 10 (.p 11 (.l 13 .b (.q 14 .nil))))))) 12 .e (.l 7 .e (.l 8 .e (.q 9 (.q 10 (.p 11 (.l 13 .b (.q 14 .nil))))))))))))))) [] rfl (by kernel_rfl) Sel.nil ?_
      repeat' (first
        | (refine AL ?_)
        | (refine AX ?_)
        | (refine A2 ?_)
        | (refine C4 ?_ ?_)
        | (refine CC ?_; rintro _ _ ⟨b,rfl,rfl⟩)
        | fail)
      · refine BX rfl (cloneSnSp_spec σ1 _ (unionI K [((x.a:Int),(x.b:Int))]) hO1.at (by omega)) rfl rfl rdZ rfl rfl ?_
        rintro _ _ ⟨σ2,hO2,rfl⟩
        obtain ⟨p2,c2,rfl⟩:=hO2.form
        repeat' (first
          | (refine C4 ?_ ?_)
          | (refine CC ?_; rintro _ _ ⟨b,rfl,rfl⟩)
          | fail)
        · refine CI rfl (segClaim_spec (se:=se) (sr:=x.sr) (n:=d.length) hO2.at hKU hn1 (by omega) hs h5 hse) rfl rfl rdZ rfl rfl ?_
          rintro _ rfl;refine AL ?_;refine Aaz ?_;refine B5 ?_; rintro _ _ ⟨b,rfl,rfl⟩
          revert b; intro b10
          refine BQ ?_;refine' CO rfl _ rfl rfl _ _
          rotate_left
          · apply BA; exact rfl; exact rfl; exact takeZ; exact oneZ; exact rfl; exact rfl
          · rintro _ _ ⟨_,rfl⟩ w hw; exact hw.sel Sel.nil
          rintro _ _ ⟨rfl,rfl⟩;refine Aaq ?_
          skip
          exact BF (b10,p2,c2,σ2) hO2 covZ selZ
        · revert b; intro b10
          refine BQ (CI rfl (segClaim_spec (se:=se) (sr:=x.sr) (n:=d.length) hO2.at hKU hn1 (by omega) hs h5 hse) rfl rfl rdZ rfl rfl ?_)
          rintro _ rfl;refine AL ?_;refine Abl ?_;refine' CO rfl _ rfl rfl _ _
          rotate_left
          · apply BA; exact rfl; exact rfl; exact takeZ; exact oneZ; exact rfl; exact rfl
          · rintro _ _ ⟨_,rfl⟩ w hw; exact hw.sel Sel.nil
          rintro _ _ ⟨rfl,rfl⟩;refine Aaq ?_
          skip
          exact BF (b10,p2,c2,σ2) hO2 covZ selZ
      · revert b; intro b10
        refine BQ (BX rfl (cloneSnSp_spec σ1 _ (unionI K [((x.a:Int),(x.b:Int))]) hO1.at (by omega)) rfl rfl rdZ rfl rfl ?_)
        rintro _ _ ⟨σ2,hO2,rfl⟩
        obtain ⟨p2,c2,rfl⟩:=hO2.form
        skip
        refine BQ (CI rfl (segClaim_spec (se:=se) (sr:=x.sr) (n:=d.length) hO2.at hKU hn1 (by omega) hs h5 hse) rfl rfl rdZ rfl rfl ?_)
        rintro _ rfl;refine AL ?_;refine Abl ?_;refine' CO rfl _ rfl rfl _ _
        rotate_left
        · apply BA; exact rfl; exact rfl; exact takeZ; exact oneZ; exact rfl; exact rfl
        · rintro _ _ ⟨_,rfl⟩ w hw; exact hw.sel Sel.nil
        rintro _ _ ⟨rfl,rfl⟩;refine Aaq ?_
        skip
        exact BF (b10,p2,c2,σ2) hO2 covZ selZ
    rintro ⟨b10,p2,c2,σ2⟩ hO2
    dsimp only at hO2 ⊢
    refine AS (ρ:=sng b10 (.cells #[int 2,int se,int x.sr,int 0,int (d.length:Int),.bool false,str [],.slice p2 (unionI K [((x.a:Int),(x.b:Int))]).length c2] 54 (0,0))) takeZ ?_
    have cp:=rdB b10 54 [int 2,int se,int x.sr,int 0,int (d.length:Int),.bool false,str [],.slice p2 (unionI K [((x.a:Int),(x.b:Int))]).length c2]
    refine Ad2 ?_;refine AD ?_
    refine BB (.q 0 (.p 1 (.l2 2 .e (.l 3 .b (.q 4 (.q 5 .nil))) 3 .b (.l 2 .e (.q 4 (.q 5 .nil)))))) [] rfl (by kernel_rfl) Sel.nil ?_
    have hfl:Flat [.agg #[int 2,int se,int x.sr,int 0,int (d.length:Int),.bool false,str [],.slice p2 (unionI K [((x.a:Int),(x.b:Int))]).length c2]] [int 2,int se,int x.sr,int 0,int (d.length:Int),.bool false,str [],.slice p2 (unionI K [((x.a:Int),(x.b:Int))]).length c2]:=Flat.agg (ws:=[int 2,int se,int x.sr,int 0,int (d.length:Int),.bool false,str [],.slice p2 (unionI K [((x.a:Int),(x.b:Int))]).length c2]) Flat.nil
    repeat' (first
      | (refine BP ?_)
      | (refine D5 ?_)
      | (refine C4 ?_ ?_)
      | fail)
    · refine a_e rfl (BW (cs:=[int 2,int se,int x.sr,int 0,int (d.length:Int),.bool false,str [],.slice p2 (unionI K [((x.a:Int),(x.b:Int))]).length c2]) rfl rfl rfl rfl rfl oneZ hfl rfl) rfl rfl rfl (by rintro _ _ ⟨b,rfl,rfl⟩ w hw; exact hw.tail) ?_
      rintro _ _ ⟨bn,rfl,rfl⟩
      skip
      refine BQ ?_;refine' CO rfl _ rfl rfl _ _
      rotate_left
      · apply BA; exact rfl; exact rfl; exact takeZ; exact oneZ; exact rfl; exact rfl
      · rintro _ _ ⟨_,rfl⟩ w hw; exact hw.sel Sel.nil
      rintro _ _ ⟨rfl,rfl⟩;refine Abo ?_
      skip
      exact AK (H':=[sng bn (.cells #[int 2,int se,int x.sr,int 0,int (d.length:Int),.bool false,str [],.slice p2 (unionI K [((x.a:Int),(x.b:Int))]).length c2] 54 (0,0)),σ2,σ1]) (resSEE (b1:=b4) (T:=99) (v1:=[int se,int (d.length:Int),.slice p1 (unionI K [((x.a:Int),(x.b:Int))]).length c1,str (maskD d (unionI K [((x.a:Int),(x.b:Int))]))]) rfl rfl rfl rfl rfl rfl (cells_own memZ)) rsubZ selZ ⟨p1,c1,σ1,hO1,.inr ⟨hs,p2,c2,σ2,bn,hO2,rfl,rfl⟩⟩
    · refine' CO rfl _ rfl rfl _ _
      rotate_left
      · apply BA; exact rfl; exact rfl; exact takeZ; exact oneZ; exact rfl; exact rfl
      · rintro _ _ ⟨_,rfl⟩ w hw; exact hw.sel Sel.nil
      rintro _ _ ⟨rfl,rfl⟩
      skip
      refine BQ (a_e rfl (BW (cs:=[int 2,int se,int x.sr,int 0,int (d.length:Int),.bool false,str [],.slice p2 (unionI K [((x.a:Int),(x.b:Int))]).length c2]) rfl rfl rfl rfl rfl oneZ hfl rfl) rfl rfl rfl (by rintro _ _ ⟨b,rfl,rfl⟩ w hw; exact hw.tail) ?_)
      rintro _ _ ⟨bn,rfl,rfl⟩;refine Abo ?_
      skip
      exact AK (H':=[sng bn (.cells #[int 2,int se,int x.sr,int 0,int (d.length:Int),.bool false,str [],.slice p2 (unionI K [((x.a:Int),(x.b:Int))]).length c2] 54 (0,0)),σ2,σ1]) (resSEE (b1:=b4) (T:=99) (v1:=[int se,int (d.length:Int),.slice p1 (unionI K [((x.a:Int),(x.b:Int))]).length c1,str (maskD d (unionI K [((x.a:Int),(x.b:Int))]))]) rfl rfl rfl rfl rfl rfl (cells_own memZ)) rsubZ selZ ⟨p1,c1,σ1,hO1,.inr ⟨hs,p2,c2,σ2,bn,hO2,rfl,rfl⟩⟩
end Go.Proofs.YtekcielcagdcmaaGreatDoor
