/- Texts of this proof, one after the other; no conditions. -/
import Derived.Test.YtahbngakckbenaaGreatDoorWB7
import Derived.Test.YtahbngakckbenaaGreatDoorWB2
import Derived.Test.YtahbngakckbenaaGreatDoorWB1
import Derived.Test.YtahbngakckbenaaGreatDoorWB6
import Derived.Test.YtahbngakckbenaaGreatDoorWB4
import Derived.Test.YtahbngakckbenaaGreatDoorWB5
set_option linter.all false
/- Sessions: what arrives is taken; whether the timer can expire. -/
namespace Go.Proofs.YtahbngakckbenaaGreatDoor
open Go.Eng Go.Step
set_option maxRecDepth 100000
set_option maxHeartbeats 64000000
theorem trTake0_spec {σ:PH} {d:List UInt8} {F:List (Frm × Value)} {p:Option Addr} {c:Nat} {rng sent lost now lo hi:Int} {y4 y5 y6 y7 y8 y9 y10 y11 y12 y13 y14 y16 y17 y18 y19 y20 y21 y22 y23 y24 y25 y26 y27 y28 y29 y30 y31 y32 y33 y34 y35 y36 y37 y38 y39:Value} {n:Nat} {K:Iv} {isd:Bool} (hO:OwnS 295 10 (.slice p F.length c) F.length (F.flatMap (encF d)) σ) (h1:∀ f∈F,f.2.oneCell'=true) (hC:ChOK lo hi n K isd ⟨F.map (·.1),sent,lost⟩) (hlo:0≤lo) (hhi:hi≤2199023255552) (hr:1≤rng∧rng≤1048576) (hs:sent≤1000000) (bs:Nat) :
  Eng.Spec Tryz.prog (fv 188) [.pointer (some ⟨bs,0,none⟩),.pointer (some ⟨bs,0,none⟩)] [] [sng bs (.cells #[int rng,.slice p F.length c,int sent,int lost,y4,y5,y6,y7,y8,y9,y10,y11,y12,y13,y14,int now,y16,y17,y18,y19,y20,y21,y22,y23,y24,y25,y26,y27,y28,y29,y30,y31,y32,y33,y34,y35,y36,y37,y38,y39] 85 (0,0)),σ] (fun r H'=>((∀ x l,F=x::l→x.1.arr≠now)∧r=.tuple #[.agg #[int 0,int 0,int 0,int 0,int 0,.bool false,str [],.slice none 0 0],.bool false]∧H'=[sng bs (.cells #[int rng,.slice p F.length c,int sent,int lost,y4,y5,y6,y7,y8,y9,y10,y11,y12,y13,y14,int now,y16,y17,y18,y19,y20,y21,y22,y23,y24,y25,y26,y27,y28,y29,y30,y31,y32,y33,y34,y35,y36,y37,y38,y39] 85 (0,0)),σ]) ∨
   (∃ x l p' c' σ',F=x::l∧x.1.arr=now∧r=.tuple #[.agg (encMsg d x.2 x.1.g).toArray,.bool true]∧OwnS 295 10 (.slice p' l.length c') l.length (l.flatMap (encF d)) σ'∧H'=[sng bs (.cells #[int rng,.slice p' l.length c',int sent,int lost,y4,y5,y6,y7,y8,y9,y10,y11,y12,y13,y14,int now,y16,y17,y18,y19,y20,y21,y22,y23,y24,y25,y26,y27,y28,y29,y30,y31,y32,y33,y34,y35,y36,y37,y38,y39] 85 (0,0)),σ'])):=by
 have hnx:=lnkNext_spec hO.at h1 hC hlo hhi hr hs
 obtain ⟨_,_,e0,hcap⟩:=hO.formC
 simp only [Value.slice.injEq] at e0
 obtain ⟨rfl,_,rfl⟩:=e0
 have c4:RdN (sng bs (.cells #[int rng,.slice p F.length c,int sent,int lost,y4,y5,y6,y7,y8,y9,y10,y11,y12,y13,y14,int now,y16,y17,y18,y19,y20,y21,y22,y23,y24,y25,y26,y27,y28,y29,y30,y31,y32,y33,y34,y35,y36,y37,y38,y39] 85 (0,0))) bs 0 [int rng,.slice p F.length c,int sent,int lost]:=(rdP_sng (xs:=[int rng,.slice p F.length c,int sent,int lost,y4,y5,y6,y7,y8,y9,y10,y11,y12,y13,y14,int now,y16,y17,y18,y19,y20,y21,y22,y23,y24,y25,y26,y27,y28,y29,y30,y31,y32,y33,y34,y35,y36,y37,y38,y39]) rfl).rd
 refine spec_in (cap:=[]) Tryz.func188 rfl rfl Tryz.ntmps188 rfl envZ (fun N β=>?_)
 refine Aa ?_;refine A6 ?_; rintro _ _ ⟨b,rfl,rfl⟩;refine Aa7 ?_;refine AQ ?_;refine AV ?_
 revert b; intro b4
 refine AW hnx rfl rfl rdZ rfl rfl ?_;rintro _ (⟨rfl,rfl⟩|⟨x,l,rfl,rfl⟩)
 ·refine AB ?_
  refine Adb ?_;refine Aca ?_;refine Acn ?_;refine Abr ?_;refine Aa ?_;refine B5 ?_;refine AX ?_; rintro _ _ ⟨rfl,rfl⟩;refine Aaa ?_
  exact AK (H':=[sng bs (.cells #[int rng,.slice p ([]:List (Frm × Value)).length c,int sent,int lost,y4,y5,y6,y7,y8,y9,y10,y11,y12,y13,y14,int now,y16,y17,y18,y19,y20,y21,y22,y23,y24,y25,y26,y27,y28,y29,y30,y31,y32,y33,y34,y35,y36,y37,y38,y39] 85 (0,0)),σ]) (resSE (b1:=b4) (T:=37) (v1:=[int 0,int 0,int 0,int 0,int 0,.bool false,str [],.slice none 0 0]) rfl rfl rfl rfl rfl (cells_own memZ)) rsubZ selZ (.inl ⟨fun x l h=>(by cases h),rfl,rfl⟩)
 by_cases hnow:x.1.arr=now
 rotate_left
 ·refine AB ?_
  refine Adb ?_;refine Aca ?_;refine Abl ?_;refine Aa5 ?_;refine DB ?_;refine AR ?_;refine Acr ?_;refine B5 ?_;refine AX ?_; rintro _ _ ⟨rfl,rfl⟩;refine Aaa ?_
  exact AK (H':=[sng bs (.cells #[int rng,.slice p (x::l).length c,int sent,int lost,y4,y5,y6,y7,y8,y9,y10,y11,y12,y13,y14,int now,y16,y17,y18,y19,y20,y21,y22,y23,y24,y25,y26,y27,y28,y29,y30,y31,y32,y33,y34,y35,y36,y37,y38,y39] 85 (0,0)),σ]) (resSE (b1:=b4) (T:=37) (v1:=[int 0,int 0,int 0,int 0,int 0,.bool false,str [],.slice none 0 0]) rfl rfl rfl rfl rfl (cells_own memZ)) rsubZ selZ (.inl ⟨fun x' l' h=>(by obtain ⟨rfl,_⟩:=List.cons.inj h; exact hnow),rfl,rfl⟩)
 have hrc:=lnkReceive_spec hO.at hcap h1 hC hlo hhi hr hs
 have hx1:=h1 x (by simp)
 obtain ⟨m0,m1,m2,m3,m4,m5,m6,m7,em,k0,k1,k2,k3,k4,k5,k6,k7⟩:=enc8 d x.1.g hx1
 have ef:encF d x=[int x.1.arr,int x.1.num,m0,m1,m2,m3,m4,m5,m6,m7]:=by unfold encF; rw [em]
 rw [ef] at hrc;rw [← hnow] at c4 ⊢;refine Aa1 ?_;refine Aca ?_;refine Abl ?_;refine Aa5 ?_;refine Ac2 ?_;refine Aab ?_;refine AQ ?_;refine AV ?_;refine BG hrc rfl rfl Takes.nil rdZ rfl rfl ?_;rintro _ _ ⟨p',c',σ',rfl,hO',rfl⟩;refine Aaw ?_;refine AI ?_;refine A6 ?_; rintro _ _ ⟨b,rfl,rfl⟩;refine A6 ?_; rintro _ _ ⟨b,rfl,rfl⟩;refine AX ?_; rintro _ _ ⟨rfl,rfl⟩;refine AX ?_; rintro _ _ ⟨rfl,rfl⟩;refine Ab1 ?_;refine AV ?_;refine AQ ?_
 rename_i b8
 revert b; intro b9
 refine AZ (ρ:=sng b9 (.cells #[int x.1.arr,int x.1.num,m0,m1,m2,m3,m4,m5,m6,m7] 295 (0,0))) takeZ ?_;refine AZ (ρ:=sng b8 (.cells #[int rng,.slice p' l.length c',int sent,int lost] 78 (0,0))) takeZ ?_
 have fp:RdP (sng b9 (.cells #[int x.1.arr,int x.1.num,m0,m1,m2,m3,m4,m5,m6,m7] 295 (0,0))) b9 2 [m0,m1,m2,m3,m4,m5,m6,m7]:=rdP_sng (xs:=[int x.1.arr,int x.1.num,m0,m1,m2,m3,m4,m5,m6,m7]) rfl
 have cw:=rdB b8 78 [int rng,.slice p' l.length c',int sent,int lost]
 skip
 refine BR (CU (vs:=[int rng,.slice p' l.length c',int sent,int lost]) rfl rfl oneZ rfl takeZ (by show 0+4≤40; omega)) rfl rfl ?_
 rintro _ _ ⟨rfl,rfl⟩
 change JK _ _ _ (sng bs (.cells #[int rng,.slice p' l.length c',int sent,int lost,y4,y5,y6,y7,y8,y9,y10,y11,y12,y13,y14,int x.1.arr,y16,y17,y18,y19,y20,y21,y22,y23,y24,y25,y26,y27,y28,y29,y30,y31,y32,y33,y34,y35,y36,y37,y38,y39] 85 (0,0))::_) _ _
 refine Ab3 ?_;refine AF ?_;refine AV ?_;refine AX ?_; rintro _ _ ⟨rfl,rfl⟩;refine Aaa ?_
 exact AK (H':=[sng bs (.cells #[int rng,.slice p' l.length c',int sent,int lost,y4,y5,y6,y7,y8,y9,y10,y11,y12,y13,y14,int x.1.arr,y16,y17,y18,y19,y20,y21,y22,y23,y24,y25,y26,y27,y28,y29,y30,y31,y32,y33,y34,y35,y36,y37,y38,y39] 85 (0,0)),σ']) (resSE (b1:=b4) (T:=37) (v1:=[m0,m1,m2,m3,m4,m5,m6,m7]) rfl rfl rfl rfl rfl (cells_own memZ)) rsubZ selZ (.inr ⟨x,l,p',c',σ',rfl,rfl,by rw [em],hO',rfl⟩)
theorem trTake1_spec {σ:PH} {d:List UInt8} {F:List (Frm × Value)} {p:Option Addr} {c:Nat} {rng sent lost now lo hi:Int} {y0 y1 y2 y3 y8 y9 y10 y11 y12 y13 y14 y16 y17 y18 y19 y20 y21 y22 y23 y24 y25 y26 y27 y28 y29 y30 y31 y32 y33 y34 y35 y36 y37 y38 y39:Value} {n:Nat} {K:Iv} {isd:Bool} (hO:OwnS 295 10 (.slice p F.length c) F.length (F.flatMap (encF d)) σ) (h1:∀ f∈F,f.2.oneCell'=true) (hC:ChOK lo hi n K isd ⟨F.map (·.1),sent,lost⟩) (hlo:0≤lo) (hhi:hi≤2199023255552) (hr:1≤rng∧rng≤1048576) (hs:sent≤1000000) (bs:Nat) :
  Eng.Spec Tryz.prog (fv 188) [.pointer (some ⟨bs,0,none⟩),.pointer (some ⟨bs,4,none⟩)] [] [sng bs (.cells #[y0,y1,y2,y3,int rng,.slice p F.length c,int sent,int lost,y8,y9,y10,y11,y12,y13,y14,int now,y16,y17,y18,y19,y20,y21,y22,y23,y24,y25,y26,y27,y28,y29,y30,y31,y32,y33,y34,y35,y36,y37,y38,y39] 85 (0,0)),σ] (fun r H'=>((∀ x l,F=x::l→x.1.arr≠now)∧r=.tuple #[.agg #[int 0,int 0,int 0,int 0,int 0,.bool false,str [],.slice none 0 0],.bool false]∧H'=[sng bs (.cells #[y0,y1,y2,y3,int rng,.slice p F.length c,int sent,int lost,y8,y9,y10,y11,y12,y13,y14,int now,y16,y17,y18,y19,y20,y21,y22,y23,y24,y25,y26,y27,y28,y29,y30,y31,y32,y33,y34,y35,y36,y37,y38,y39] 85 (0,0)),σ]) ∨
   (∃ x l p' c' σ',F=x::l∧x.1.arr=now∧r=.tuple #[.agg (encMsg d x.2 x.1.g).toArray,.bool true]∧OwnS 295 10 (.slice p' l.length c') l.length (l.flatMap (encF d)) σ'∧H'=[sng bs (.cells #[y0,y1,y2,y3,int rng,.slice p' l.length c',int sent,int lost,y8,y9,y10,y11,y12,y13,y14,int now,y16,y17,y18,y19,y20,y21,y22,y23,y24,y25,y26,y27,y28,y29,y30,y31,y32,y33,y34,y35,y36,y37,y38,y39] 85 (0,0)),σ'])):=by
 have hnx:=lnkNext_spec hO.at h1 hC hlo hhi hr hs
 obtain ⟨_,_,e0,hcap⟩:=hO.formC
 simp only [Value.slice.injEq] at e0
 obtain ⟨rfl,_,rfl⟩:=e0
 have c4:RdN (sng bs (.cells #[y0,y1,y2,y3,int rng,.slice p F.length c,int sent,int lost,y8,y9,y10,y11,y12,y13,y14,int now,y16,y17,y18,y19,y20,y21,y22,y23,y24,y25,y26,y27,y28,y29,y30,y31,y32,y33,y34,y35,y36,y37,y38,y39] 85 (0,0))) bs 4 [int rng,.slice p F.length c,int sent,int lost]:=(rdP_sng (xs:=[y0,y1,y2,y3,int rng,.slice p F.length c,int sent,int lost,y8,y9,y10,y11,y12,y13,y14,int now,y16,y17,y18,y19,y20,y21,y22,y23,y24,y25,y26,y27,y28,y29,y30,y31,y32,y33,y34,y35,y36,y37,y38,y39]) rfl).rd
 refine spec_in (cap:=[]) Tryz.func188 rfl rfl Tryz.ntmps188 rfl envZ (fun N β=>?_)
 refine Aa ?_;refine A6 ?_; rintro _ _ ⟨b,rfl,rfl⟩;refine Aa7 ?_;refine AQ ?_;refine AV ?_
 revert b; intro b4
 refine AW hnx rfl rfl rdZ rfl rfl ?_;rintro _ (⟨rfl,rfl⟩|⟨x,l,rfl,rfl⟩)
 ·refine AB ?_
  refine Adb ?_;refine Aca ?_;refine Acn ?_;refine Abr ?_;refine Aa ?_;refine B5 ?_;refine AX ?_; rintro _ _ ⟨rfl,rfl⟩;refine Aaa ?_
  exact AK (H':=[sng bs (.cells #[y0,y1,y2,y3,int rng,.slice p ([]:List (Frm × Value)).length c,int sent,int lost,y8,y9,y10,y11,y12,y13,y14,int now,y16,y17,y18,y19,y20,y21,y22,y23,y24,y25,y26,y27,y28,y29,y30,y31,y32,y33,y34,y35,y36,y37,y38,y39] 85 (0,0)),σ]) (resSE (b1:=b4) (T:=37) (v1:=[int 0,int 0,int 0,int 0,int 0,.bool false,str [],.slice none 0 0]) rfl rfl rfl rfl rfl (cells_own memZ)) rsubZ selZ (.inl ⟨fun x l h=>(by cases h),rfl,rfl⟩)
 by_cases hnow:x.1.arr=now
 rotate_left
 ·refine AB ?_
  refine Adb ?_;refine Aca ?_;refine Abl ?_;refine Aa5 ?_;refine DB ?_;refine AR ?_;refine Acr ?_;refine B5 ?_;refine AX ?_; rintro _ _ ⟨rfl,rfl⟩;refine Aaa ?_
  exact AK (H':=[sng bs (.cells #[y0,y1,y2,y3,int rng,.slice p (x::l).length c,int sent,int lost,y8,y9,y10,y11,y12,y13,y14,int now,y16,y17,y18,y19,y20,y21,y22,y23,y24,y25,y26,y27,y28,y29,y30,y31,y32,y33,y34,y35,y36,y37,y38,y39] 85 (0,0)),σ]) (resSE (b1:=b4) (T:=37) (v1:=[int 0,int 0,int 0,int 0,int 0,.bool false,str [],.slice none 0 0]) rfl rfl rfl rfl rfl (cells_own memZ)) rsubZ selZ (.inl ⟨fun x' l' h=>(by obtain ⟨rfl,_⟩:=List.cons.inj h; exact hnow),rfl,rfl⟩)
 have hrc:=lnkReceive_spec hO.at hcap h1 hC hlo hhi hr hs
 have hx1:=h1 x (by simp)
 obtain ⟨m0,m1,m2,m3,m4,m5,m6,m7,em,k0,k1,k2,k3,k4,k5,k6,k7⟩:=enc8 d x.1.g hx1
 have ef:encF d x=[int x.1.arr,int x.1.num,m0,m1,m2,m3,m4,m5,m6,m7]:=by unfold encF; rw [em]
 rw [ef] at hrc;rw [← hnow] at c4 ⊢;refine Aa1 ?_;refine Aca ?_;refine Abl ?_;refine Aa5 ?_;refine Ac2 ?_;refine Aab ?_;refine AQ ?_;refine AV ?_;refine BG hrc rfl rfl Takes.nil rdZ rfl rfl ?_;rintro _ _ ⟨p',c',σ',rfl,hO',rfl⟩;refine Aaw ?_;refine AI ?_;refine A6 ?_; rintro _ _ ⟨b,rfl,rfl⟩;refine A6 ?_; rintro _ _ ⟨b,rfl,rfl⟩;refine AX ?_; rintro _ _ ⟨rfl,rfl⟩;refine AX ?_; rintro _ _ ⟨rfl,rfl⟩;refine Ab1 ?_;refine AV ?_;refine AQ ?_
 rename_i b8
 revert b; intro b9
 refine AZ (ρ:=sng b9 (.cells #[int x.1.arr,int x.1.num,m0,m1,m2,m3,m4,m5,m6,m7] 295 (0,0))) takeZ ?_;refine AZ (ρ:=sng b8 (.cells #[int rng,.slice p' l.length c',int sent,int lost] 78 (0,0))) takeZ ?_
 have fp:RdP (sng b9 (.cells #[int x.1.arr,int x.1.num,m0,m1,m2,m3,m4,m5,m6,m7] 295 (0,0))) b9 2 [m0,m1,m2,m3,m4,m5,m6,m7]:=rdP_sng (xs:=[int x.1.arr,int x.1.num,m0,m1,m2,m3,m4,m5,m6,m7]) rfl
 have cw:=rdB b8 78 [int rng,.slice p' l.length c',int sent,int lost]
 skip
 refine BR (CU (vs:=[int rng,.slice p' l.length c',int sent,int lost]) rfl rfl oneZ rfl takeZ (by show 4+4≤40; omega)) rfl rfl ?_
 rintro _ _ ⟨rfl,rfl⟩
 change JK _ _ _ (sng bs (.cells #[y0,y1,y2,y3,int rng,.slice p' l.length c',int sent,int lost,y8,y9,y10,y11,y12,y13,y14,int x.1.arr,y16,y17,y18,y19,y20,y21,y22,y23,y24,y25,y26,y27,y28,y29,y30,y31,y32,y33,y34,y35,y36,y37,y38,y39] 85 (0,0))::_) _ _
 refine Ab3 ?_;refine AF ?_;refine AV ?_;refine AX ?_; rintro _ _ ⟨rfl,rfl⟩;refine Aaa ?_
 exact AK (H':=[sng bs (.cells #[y0,y1,y2,y3,int rng,.slice p' l.length c',int sent,int lost,y8,y9,y10,y11,y12,y13,y14,int x.1.arr,y16,y17,y18,y19,y20,y21,y22,y23,y24,y25,y26,y27,y28,y29,y30,y31,y32,y33,y34,y35,y36,y37,y38,y39] 85 (0,0)),σ']) (resSE (b1:=b4) (T:=37) (v1:=[m0,m1,m2,m3,m4,m5,m6,m7]) rfl rfl rfl rfl rfl (cells_own memZ)) rsubZ selZ (.inr ⟨x,l,p',c',σ',rfl,rfl,by rw [em],hO',rfl⟩)
theorem trWaits_spec {P:Par} {s:Ss} {pp pq:Option Addr} {cp cq:Nat} {y0 y1 y2 y3 y4 y5 y6 y7 y13 y14 y15 y16 y17 y18 y19 y20 y21 y22 y23 y24 y25 y26 y27 y28 y29 y31 y32 y33 y34 y35 y36 y37 y38 y39:Value} (bs:Nat):Ans Tryz.prog (fv 134) [.pointer (some ⟨bs,0,none⟩)] [sng bs (.cells #[y0,y1,y2,y3,y4,y5,y6,y7,.slice pp P.picks.length cp,int P.limit,.slice pq P.dark.length cq,int s.ent,int s.dis,y13,y14,y15,y16,y17,y18,y19,y20,y21,y22,y23,y24,y25,y26,y27,y28,y29,int s.snd.st,y31,y32,y33,y34,y35,y36,y37,y38,y39] 85 (0,0))] (fun r=>r=.bool (waitsM s)):=by
 have bx304_3:=rdB bs 85 [y0,y1,y2,y3,y4,y5,y6,y7,.slice pp P.picks.length cp,int P.limit,.slice pq P.dark.length cq,int s.ent,int s.dis,y13,y14,y15,y16,y17,y18,y19,y20,y21,y22,y23,y24,y25,y26,y27,y28,y29,int s.snd.st,y31,y32,y33,y34,y35,y36,y37,y38,y39]
 have f30:=rdC bx304_3 30
 unfold waitsM
 refine spec_in (cap:=[]) Tryz.func134 rfl rfl Tryz.ntmps134 rfl envZ (fun N β=>?_)
 by_cases h1:s.snd.st=1
 rotate_left
 ·rw [decide_eq_false h1]
  refine Ach ?_;refine Aa2 ?_;refine DF ?_;refine AG ?_;refine CI ?_;refine Abf ?_;refine Aa0 ?_;refine AR ?_;refine Aaa ?_;exact BE ⟨rfl,rfl⟩
 rw [decide_eq_true h1];refine Ach ?_;refine Aa2 ?_;refine DF ?_;refine AG ?_;refine CM ?_;refine Aak ?_;refine Aa2 ?_;refine AW (trFull_spec (P:=P) (s:=s) bs) rfl rfl rdZ rfl rfl ?_;rintro _ rfl
 by_cases h2:s.ent<10000
 ·rw [decide_eq_true h2,decide_eq_false (show ¬ 10000≤s.ent by omega)]
  refine BC ?_;refine Abi ?_;exact BE ⟨rfl,rfl⟩
 ·rw [decide_eq_false h2,decide_eq_true (show 10000≤s.ent by omega)]
  refine BC ?_;refine Abi ?_;exact BE ⟨rfl,rfl⟩
end Go.Proofs.YtahbngakckbenaaGreatDoor
namespace Go.Eng
variable {C:Cx} {D:List Deferred} {R H:List PH} {L:Env} {K:List It}
end Go.Eng
namespace Go.Proofs.YtahbngakckbenaaGreatDoor
open Go.Eng Go.Step
set_option maxRecDepth 100000
set_option maxHeartbeats 64000000
theorem trAdd_spec (o:Option Int) (t:Int) (q:Bool) (b4 b5:Nat) :
  Eng.Spec Tryz.prog (.func (.func 131) #[] #[.pointer (some ⟨b5,0,none⟩),.pointer (some ⟨b4,0,none⟩)]) [int t,.bool q] [] [sng b4 (.cells #[int (o.getD 0)] 3 (0,0)),sng b5 (.cells #[.bool o.isSome] 4 (0,0))] (fun r H'=>r=.tuple #[]∧H'=[sng b4 (.cells #[int ((minO o (if q then some t else none)).getD 0)] 3 (0,0)),sng b5 (.cells #[.bool (minO o (if q then some t else none)).isSome] 4 (0,0))]):=by
 refine spec_in (cap:=[.pointer (some ⟨b5,0,none⟩),.pointer (some ⟨b4,0,none⟩)]) Tryz.func131 rfl rfl Tryz.ntmps131 rfl envZ (fun N β=>?_)
 cases q with
 | false =>
  have e:minO o (if false=true then some t else none)=o:=by cases o <;> rfl
  rw [e];refine Aar ?_;refine Aac ?_;refine Aac ?_;refine Aa0 ?_;refine Aa3 ?_;exact BW (res0 rfl) rsubZ selZ ⟨rfl,rfl⟩
 | true =>
  cases o with
  | none =>
   refine Aar ?_;refine AG ?_;refine BC ?_;refine Ab9 ?_;refine A4 ?_;refine Abr ?_;refine Acf ?_;refine BA ?_; rintro _ _ ⟨rfl,rfl⟩;refine BA ?_; rintro _ _ ⟨rfl,rfl⟩;refine AE ?_;exact BW (res0 rfl) rsubZ selZ ⟨rfl,rfl⟩
  | some a =>
   have g1:(some a).getD 0=a:=rfl
   have g2:(some a).isSome=true:=rfl
   rw [g1,g2]
   by_cases h:t<a
   ·have e:minO (some a) (if true=true then some t else none)=some t:=if_pos h
    rw [e];refine Aar ?_;refine AG ?_;refine Acq ?_;refine AG ?_;refine CC ?_;refine AR ?_;refine Abr ?_;refine Acf ?_;refine BA ?_; rintro _ _ ⟨rfl,rfl⟩;refine BA ?_; rintro _ _ ⟨rfl,rfl⟩;refine AE ?_;exact BW (H':=[sng b4 (.cells #[int t] 3 (0,0)),sng b5 (.cells #[.bool true] 4 (0,0))]) (res0 rfl) rsubZ selZ ⟨rfl,rfl⟩
   ·have e:minO (some a) (if true=true then some t else none)=some a:=if_neg h
    rw [e];refine Aar ?_;refine AG ?_;refine Acq ?_;refine AG ?_;refine BN ?_;refine AR ?_;refine A4 ?_;refine Aag ?_;exact BW (H':=[sng b4 (.cells #[int a] 3 (0,0)),sng b5 (.cells #[.bool true] 4 (0,0))]) (res0 rfl) rsubZ selZ ⟨rfl,rfl⟩
theorem trSteps_spec:Ans Tryz.prog (fv 82) [] [] (fun r=>r=.agg #[fv 135,fv 136,fv 137,fv 138]):=by
 refine spec_in (cap:=[]) Tryz.func82 rfl rfl Tryz.ntmps82 rfl envZ (fun N β=>?_)
 refine Aa ?_;refine A6 ?_; rintro _ _ ⟨b,rfl,rfl⟩;refine Ab3 ?_
 focus ((refine BQ (DQ (s:=1) (out:=[fv 135,fv 136,fv 137,fv 138]) rfl rfl rfl rfl (by kernel_rfl)) rfl rfl rfl ?_))
 refine AX ?_; rintro _ _ ⟨rfl,rfl⟩;refine AE ?_;exact AK (resS1 (v1:=[fv 135,fv 136,fv 137,fv 138]) rfl rfl rfl rfl (cells_own memZ)) rsubZ selZ ⟨rfl,rfl⟩
theorem lnkNextO_spec {σ:PH} {d:List UInt8} {F:List (Frm × Value)} {p:Option Addr} {c:Nat} {rng sent lost lo hi:Int} {n:Nat} {K:Iv} {isd:Bool} (hv:SlE (encF d) 10 σ (.slice p F.length c) F) (h1:∀ f∈F,f.2.oneCell'=true) (hC:ChOK lo hi n K isd ⟨F.map (·.1),sent,lost⟩) (hlo:0≤lo) (hhi:hi≤2199023255552) (hr:1≤rng∧rng≤1048576) (hs:sent≤1000000) :
  Ans Tryz.prog (fv 133) [.agg #[int rng,.slice p F.length c,int sent,int lost]] [σ] (fun r=>r=.tuple #[int (((F.map (·.1)).head?.map (·.arr)).getD 0),.bool ((F.map (·.1)).head?.map (·.arr)).isSome]):=
 (lnkNext_spec hv h1 hC hlo hhi hr hs).mono (by
  rintro r H' ⟨hH,⟨rfl,rfl⟩|⟨x,l,rfl,rfl⟩⟩
  ·exact ⟨hH,rfl⟩
  ·exact ⟨hH,rfl⟩)
theorem minO_get {o a:Option Int}:minO o (if a.isSome=true then some (a.getD 0) else none)=minO o a:=by
 cases a <;> rfl
theorem trNext_spec {σd σr σw:PH} {P:Par} {s:Ss} {d:List UInt8} {Fd Fr:List (Frm × Value)} {pd pr pp pq pw:Option Addr} {cd cr cp cq cw:Nat} {y13 y14 y15 y16 y17 y18 y19 y20 y21 y22 y23 y24 y25 y26 y27 y28 y31 y32 y33 y34 y36 y37 y38 y39:Value} {ld lr:Int} (hd:SlE (encF d) 10 σd (.slice pd Fd.length cd) Fd) (hd1:∀ f∈Fd,f.2.oneCell'=true) (hdm:Fd.map (·.1)=s.dat.fr) (hdC:ChOK ld (P.e+2*P.c.g) P.d.length s.K true s.dat) (hld:0≤ld) (hhi:P.e+2*P.c.g≤2199023255552)
  (hr:SlE (encF d) 10 σr (.slice pr Fr.length cr) Fr) (hr1:∀ f∈Fr,f.2.oneCell'=true) (hrm:Fr.map (·.1)=s.rep.fr) (hrC:ChOK lr 2199023255552 P.d.length s.K false s.rep) (hlr:0≤lr) (hg:1≤P.c.g∧P.c.g≤1048576) (hds:s.dat.sent≤100000) (hrs:s.rep.sent≤100000) (hw:SlE (encO 0 d) 9 σw (.slice pw s.wait.length cw) s.wait) (hwl:s.wait.length≤1000000) (bs:Nat) :
  Eng.Spec Tryz.prog (fv 81) [.pointer (some ⟨bs,0,none⟩)] [] [sng bs (.cells #[int P.c.g,.slice pd Fd.length cd,int s.dat.sent,int s.dat.lost,int P.c.g,.slice pr Fr.length cr,int s.rep.sent,int s.rep.lost,.slice pp P.picks.length cp,int P.limit,.slice pq P.dark.length cq,int s.ent,int s.dis,y13,y14,y15,y16,y17,y18,y19,y20,y21,y22,y23,y24,y25,y26,y27,y28,int s.snd.due,int s.snd.st,y31,y32,y33,y34,.slice pw s.wait.length cw,y36,y37,y38,y39] 85 (0,0)),σd,σr,σw] (fun r H'=>r=.tuple #[int ((nextM (clrM s)).getD 0),.bool (nextM (clrM s)).isSome]∧H'=[(if 10000≤s.ent then sng bs (.cells #[int P.c.g,.slice pd Fd.length cd,int s.dat.sent,int s.dat.lost,int P.c.g,.slice pr Fr.length cr,int s.rep.sent,int s.rep.lost,.slice pp P.picks.length cp,int P.limit,.slice pq P.dark.length cq,int s.ent,int s.dis,y13,y14,y15,y16,y17,y18,y19,y20,y21,y22,y23,y24,y25,y26,y27,y28,int s.snd.due,int s.snd.st,y31,y32,y33,y34,.slice none 0 0,y36,y37,y38,y39] 85 (0,0)) else sng bs (.cells #[int P.c.g,.slice pd Fd.length cd,int s.dat.sent,int s.dat.lost,int P.c.g,.slice pr Fr.length cr,int s.rep.sent,int s.rep.lost,.slice pp P.picks.length cp,int P.limit,.slice pq P.dark.length cq,int s.ent,int s.dis,y13,y14,y15,y16,y17,y18,y19,y20,y21,y22,y23,y24,y25,y26,y27,y28,int s.snd.due,int s.snd.st,y31,y32,y33,y34,.slice pw s.wait.length cw,y36,y37,y38,y39] 85 (0,0))),σd,σr,σw]):=by
 have hnd:=lnkNextO_spec (rng:=P.c.g) (sent:=s.dat.sent) (lost:=s.dat.lost) hd hd1 (by rw [hdm]; exact hdC) hld hhi hg (by omega)
 have hnr:=lnkNextO_spec (rng:=P.c.g) (sent:=s.rep.sent) (lost:=s.rep.lost) hr hr1 (by rw [hrm]; exact hrC) hlr (Int.le_refl _) hg (by omega)
 rw [hdm] at hnd;rw [hrm] at hnr
 refine spec_in (cap:=[]) Tryz.func81 rfl rfl Tryz.ntmps81 rfl envZ (fun N β=>?_)
 refine Acg ?_;refine Aa ?_;refine CQ ?_; rintro _ _ ⟨b,rfl,rfl⟩;refine CQ ?_; rintro _ _ ⟨b,rfl,rfl⟩;refine BA ?_; rintro _ _ ⟨rfl,rfl⟩;refine BA ?_; rintro _ _ ⟨rfl,rfl⟩;refine Ab3 ?_;refine B0 ?_;refine Aa7 ?_;refine Aa2 ?_
 rename_i b4
 revert b; intro b5
 refine AW (trFull_spec (P:=P) (s:=s) bs) rfl rfl rdZ rfl rfl ?_;rintro _ rfl
 by_cases hfull:10000≤s.ent
 ·rw [decide_eq_true hfull,if_pos hfull]
  have hcl:clrM s={ s with wait:=[] }:=if_pos hfull
  rw [hcl];refine Aal ?_;refine Acf ?_;refine Aa2 ?_;refine BA ?_; rintro _ _ ⟨rfl,rfl⟩;refine Ac1 ?_;refine Aa5 ?_;refine BF ?_;refine BP ?_;refine Aag ?_;refine Aar ?_;refine Acw ?_
  have c0:RdN (sng bs (.cells #[int P.c.g,.slice pd Fd.length cd,int s.dat.sent,int s.dat.lost,int P.c.g,.slice pr Fr.length cr,int s.rep.sent,int s.rep.lost,.slice pp P.picks.length cp,int P.limit,.slice pq P.dark.length cq,int s.ent,int s.dis,y13,y14,y15,y16,y17,y18,y19,y20,y21,y22,y23,y24,y25,y26,y27,y28,int s.snd.due,int s.snd.st,y31,y32,y33,y34,.slice none 0 0,y36,y37,y38,y39] 85 (0,0))) bs 0 [int P.c.g,.slice pd Fd.length cd,int s.dat.sent,int s.dat.lost]:=(rdP_sng (xs:=[int P.c.g,.slice pd Fd.length cd,int s.dat.sent,int s.dat.lost,int P.c.g,.slice pr Fr.length cr,int s.rep.sent,int s.rep.lost,.slice pp P.picks.length cp,int P.limit,.slice pq P.dark.length cq,int s.ent,int s.dis,y13,y14,y15,y16,y17,y18,y19,y20,y21,y22,y23,y24,y25,y26,y27,y28,int s.snd.due,int s.snd.st,y31,y32,y33,y34,.slice none 0 0,y36,y37,y38,y39]) rfl).rd
  have c4:RdN (sng bs (.cells #[int P.c.g,.slice pd Fd.length cd,int s.dat.sent,int s.dat.lost,int P.c.g,.slice pr Fr.length cr,int s.rep.sent,int s.rep.lost,.slice pp P.picks.length cp,int P.limit,.slice pq P.dark.length cq,int s.ent,int s.dis,y13,y14,y15,y16,y17,y18,y19,y20,y21,y22,y23,y24,y25,y26,y27,y28,int s.snd.due,int s.snd.st,y31,y32,y33,y34,.slice none 0 0,y36,y37,y38,y39] 85 (0,0))) bs 4 [int P.c.g,.slice pr Fr.length cr,int s.rep.sent,int s.rep.lost]:=(rdP_sng (xs:=[int P.c.g,.slice pd Fd.length cd,int s.dat.sent,int s.dat.lost,int P.c.g,.slice pr Fr.length cr,int s.rep.sent,int s.rep.lost,.slice pp P.picks.length cp,int P.limit,.slice pq P.dark.length cq,int s.ent,int s.dis,y13,y14,y15,y16,y17,y18,y19,y20,y21,y22,y23,y24,y25,y26,y27,y28,int s.snd.due,int s.snd.st,y31,y32,y33,y34,.slice none 0 0,y36,y37,y38,y39]) rfl).rd
  refine AV ?_;refine AW hnd rfl rfl rdZ rfl rfl ?_;rintro _ rfl;refine Aaq ?_;refine BG (trAdd_spec none _ _ b4 b5) rfl rfl takesZ rdZ rfl rfl ?_;rintro _ _ ⟨rfl,rfl⟩;rw [minO_get];refine Ac3 ?_;refine Acw ?_;refine AV ?_;refine AW hnr rfl rfl rdZ rfl rfl ?_;rintro _ rfl;refine Aaq ?_;refine BG (trAdd_spec _ _ _ b4 b5) rfl rfl takesZ rdZ rfl rfl ?_;rintro _ _ ⟨rfl,rfl⟩;rw [minO_get];refine Aat ?_
  refine BD (.q 0 (.q 1 (.q 2 (.q 3 (.q 4 (.q 5 (.q 6 (.l 7 .e (.l 8 .b .nil))))))))) [] rfl (by kernel_rfl) Sel.nil ?_
  refine AJ ?_;refine Add ?_;refine AJ ?_;refine BL (CS rfl (trWaits_spec (P:=P) (s:=s) bs) rfl rfl rdZ rfl rfl ?_);rintro _ rfl
  refine BL (CD rfl (trAdd_spec _ _ _ b4 b5) rfl rfl takesZ rdZ rfl rfl (fun _ _ _ w hw=>hw.sel Sel.nil) ?_)
  rintro _ _ ⟨rfl,rfl⟩;refine A7 ?_;refine AD ?_
  refine BD (.q 0 (.q 1 (.q 2 (.q 3 .nil)))) [] rfl (by kernel_rfl) Sel.nil ?_
  refine AS ?_;refine AS ?_;refine Abk ?_
  skip
  exact AK (H':=[sng bs (.cells #[int P.c.g,.slice pd Fd.length cd,int s.dat.sent,int s.dat.lost,int P.c.g,.slice pr Fr.length cr,int s.rep.sent,int s.rep.lost,.slice pp P.picks.length cp,int P.limit,.slice pq P.dark.length cq,int s.ent,int s.dis,y13,y14,y15,y16,y17,y18,y19,y20,y21,y22,y23,y24,y25,y26,y27,y28,int s.snd.due,int s.snd.st,y31,y32,y33,y34,.slice none 0 0,y36,y37,y38,y39] 85 (0,0)),σd,σr,σw]) (res2 rfl rfl rfl) rsubZ selZ ⟨by unfold nextM; rfl,rfl⟩
 rw [decide_eq_false hfull,if_neg hfull]
 have hcl:clrM s=s:=if_neg hfull
 rw [hcl]
 obtain ⟨_,_,e0,hrw⟩:=hw.val (encO_len 0 d)
 simp only [Value.slice.injEq] at e0
 obtain ⟨rfl,_,rfl⟩:=e0
 rcases hwt:s.wait with _|⟨x,w⟩
 ·have hl0:s.wait.length=0:=by rw [hwt]; rfl
  rw [← hwt];refine Acm ?_;refine Aa5 ?_;refine BF ?_;refine BP ?_;refine Aag ?_;refine Aar ?_;refine Acw ?_
  have c0:RdN (sng bs (.cells #[int P.c.g,.slice pd Fd.length cd,int s.dat.sent,int s.dat.lost,int P.c.g,.slice pr Fr.length cr,int s.rep.sent,int s.rep.lost,.slice pp P.picks.length cp,int P.limit,.slice pq P.dark.length cq,int s.ent,int s.dis,y13,y14,y15,y16,y17,y18,y19,y20,y21,y22,y23,y24,y25,y26,y27,y28,int s.snd.due,int s.snd.st,y31,y32,y33,y34,.slice pw s.wait.length cw,y36,y37,y38,y39] 85 (0,0))) bs 0 [int P.c.g,.slice pd Fd.length cd,int s.dat.sent,int s.dat.lost]:=(rdP_sng (xs:=[int P.c.g,.slice pd Fd.length cd,int s.dat.sent,int s.dat.lost,int P.c.g,.slice pr Fr.length cr,int s.rep.sent,int s.rep.lost,.slice pp P.picks.length cp,int P.limit,.slice pq P.dark.length cq,int s.ent,int s.dis,y13,y14,y15,y16,y17,y18,y19,y20,y21,y22,y23,y24,y25,y26,y27,y28,int s.snd.due,int s.snd.st,y31,y32,y33,y34,.slice pw s.wait.length cw,y36,y37,y38,y39]) rfl).rd
  have c4:RdN (sng bs (.cells #[int P.c.g,.slice pd Fd.length cd,int s.dat.sent,int s.dat.lost,int P.c.g,.slice pr Fr.length cr,int s.rep.sent,int s.rep.lost,.slice pp P.picks.length cp,int P.limit,.slice pq P.dark.length cq,int s.ent,int s.dis,y13,y14,y15,y16,y17,y18,y19,y20,y21,y22,y23,y24,y25,y26,y27,y28,int s.snd.due,int s.snd.st,y31,y32,y33,y34,.slice pw s.wait.length cw,y36,y37,y38,y39] 85 (0,0))) bs 4 [int P.c.g,.slice pr Fr.length cr,int s.rep.sent,int s.rep.lost]:=(rdP_sng (xs:=[int P.c.g,.slice pd Fd.length cd,int s.dat.sent,int s.dat.lost,int P.c.g,.slice pr Fr.length cr,int s.rep.sent,int s.rep.lost,.slice pp P.picks.length cp,int P.limit,.slice pq P.dark.length cq,int s.ent,int s.dis,y13,y14,y15,y16,y17,y18,y19,y20,y21,y22,y23,y24,y25,y26,y27,y28,int s.snd.due,int s.snd.st,y31,y32,y33,y34,.slice pw s.wait.length cw,y36,y37,y38,y39]) rfl).rd
  refine AV ?_;refine AW hnd rfl rfl rdZ rfl rfl ?_;rintro _ rfl;refine Aaq ?_;refine BG (trAdd_spec none _ _ b4 b5) rfl rfl takesZ rdZ rfl rfl ?_;rintro _ _ ⟨rfl,rfl⟩;rw [minO_get];refine Ac3 ?_;refine Acw ?_;refine AV ?_;refine AW hnr rfl rfl rdZ rfl rfl ?_;rintro _ rfl;refine Aaq ?_;refine BG (trAdd_spec _ _ _ b4 b5) rfl rfl takesZ rdZ rfl rfl ?_;rintro _ _ ⟨rfl,rfl⟩;rw [minO_get];refine Aat ?_
  refine BD (.q 0 (.q 1 (.q 2 (.q 3 (.q 4 (.q 5 (.q 6 (.l 7 .e (.l 8 .b .nil))))))))) [] rfl (by kernel_rfl) Sel.nil ?_
  refine AJ ?_;refine Add ?_;refine AJ ?_;refine BL (CS rfl (trWaits_spec (P:=P) (s:=s) bs) rfl rfl rdZ rfl rfl ?_);rintro _ rfl
  refine BL (CD rfl (trAdd_spec _ _ _ b4 b5) rfl rfl takesZ rdZ rfl rfl (fun _ _ _ w hw=>hw.sel Sel.nil) ?_)
  rintro _ _ ⟨rfl,rfl⟩;refine A7 ?_;refine AD ?_
  refine BD (.q 0 (.q 1 (.q 2 (.q 3 .nil)))) [] rfl (by kernel_rfl) Sel.nil ?_
  refine AS ?_;refine AS ?_;refine Abk ?_
  skip
  exact AK (H':=[sng bs (.cells #[int P.c.g,.slice pd Fd.length cd,int s.dat.sent,int s.dat.lost,int P.c.g,.slice pr Fr.length cr,int s.rep.sent,int s.rep.lost,.slice pp P.picks.length cp,int P.limit,.slice pq P.dark.length cq,int s.ent,int s.dis,y13,y14,y15,y16,y17,y18,y19,y20,y21,y22,y23,y24,y25,y26,y27,y28,int s.snd.due,int s.snd.st,y31,y32,y33,y34,.slice pw s.wait.length cw,y36,y37,y38,y39] 85 (0,0)),σd,σr,σw]) (res2 rfl rfl rfl) rsubZ selZ ⟨by unfold nextM; rw [hwt]; rfl,rfl⟩
 have hl0:s.wait.length=w.length+1:=by rw [hwt]; rfl
 obtain ⟨bw,ow,rfl,hR⟩:=hrw 0 x (by rw [hwt]; rfl)
 have z0:rdc σw bw (ow+0*9)=some (int x.1):=RdN.get0 hR
 have z1:rdc σw bw ow=some (int x.1):=by rw [Nat.zero_mul] at z0; exact z0
 rw [← hwt];refine Acm ?_;refine Aa5 ?_;refine BF ?_;refine C9 ?_;refine Aal ?_;refine Ab5 ?_;refine Aa5 ?_;refine DP ?_;refine Acy ?_;refine BG (trAdd_spec none _ true b4 b5) rfl rfl takesZ rdZ rfl rfl ?_;rintro _ _ ⟨rfl,rfl⟩
 rw [show minO none (if true=true then some x.1 else none)=some x.1 from rfl]
 have c0:RdN (sng bs (.cells #[int P.c.g,.slice pd Fd.length cd,int s.dat.sent,int s.dat.lost,int P.c.g,.slice pr Fr.length cr,int s.rep.sent,int s.rep.lost,.slice pp P.picks.length cp,int P.limit,.slice pq P.dark.length cq,int s.ent,int s.dis,y13,y14,y15,y16,y17,y18,y19,y20,y21,y22,y23,y24,y25,y26,y27,y28,int s.snd.due,int s.snd.st,y31,y32,y33,y34,.slice (some ⟨bw,ow,none⟩) s.wait.length cw,y36,y37,y38,y39] 85 (0,0))) bs 0 [int P.c.g,.slice pd Fd.length cd,int s.dat.sent,int s.dat.lost]:=(rdP_sng (xs:=[int P.c.g,.slice pd Fd.length cd,int s.dat.sent,int s.dat.lost,int P.c.g,.slice pr Fr.length cr,int s.rep.sent,int s.rep.lost,.slice pp P.picks.length cp,int P.limit,.slice pq P.dark.length cq,int s.ent,int s.dis,y13,y14,y15,y16,y17,y18,y19,y20,y21,y22,y23,y24,y25,y26,y27,y28,int s.snd.due,int s.snd.st,y31,y32,y33,y34,.slice (some ⟨bw,ow,none⟩) s.wait.length cw,y36,y37,y38,y39]) rfl).rd
 have c4:RdN (sng bs (.cells #[int P.c.g,.slice pd Fd.length cd,int s.dat.sent,int s.dat.lost,int P.c.g,.slice pr Fr.length cr,int s.rep.sent,int s.rep.lost,.slice pp P.picks.length cp,int P.limit,.slice pq P.dark.length cq,int s.ent,int s.dis,y13,y14,y15,y16,y17,y18,y19,y20,y21,y22,y23,y24,y25,y26,y27,y28,int s.snd.due,int s.snd.st,y31,y32,y33,y34,.slice (some ⟨bw,ow,none⟩) s.wait.length cw,y36,y37,y38,y39] 85 (0,0))) bs 4 [int P.c.g,.slice pr Fr.length cr,int s.rep.sent,int s.rep.lost]:=(rdP_sng (xs:=[int P.c.g,.slice pd Fd.length cd,int s.dat.sent,int s.dat.lost,int P.c.g,.slice pr Fr.length cr,int s.rep.sent,int s.rep.lost,.slice pp P.picks.length cp,int P.limit,.slice pq P.dark.length cq,int s.ent,int s.dis,y13,y14,y15,y16,y17,y18,y19,y20,y21,y22,y23,y24,y25,y26,y27,y28,int s.snd.due,int s.snd.st,y31,y32,y33,y34,.slice (some ⟨bw,ow,none⟩) s.wait.length cw,y36,y37,y38,y39]) rfl).rd
 refine Ac3 ?_;refine Acw ?_;refine AV ?_;refine AW hnd rfl rfl rdZ rfl rfl ?_;rintro _ rfl;refine Aaq ?_;refine BG (trAdd_spec (some x.1) _ _ b4 b5) rfl rfl takesZ rdZ rfl rfl ?_;rintro _ _ ⟨rfl,rfl⟩;rw [minO_get];refine Ac3 ?_;refine Acw ?_;refine AV ?_;refine AW hnr rfl rfl rdZ rfl rfl ?_;rintro _ rfl;refine Aaq ?_;refine BG (trAdd_spec _ _ _ b4 b5) rfl rfl takesZ rdZ rfl rfl ?_;rintro _ _ ⟨rfl,rfl⟩;rw [minO_get];refine Aat ?_
 refine BD (.q 0 (.q 1 (.q 2 (.q 3 (.q 4 (.q 5 (.q 6 (.l 7 .e (.l 8 .b .nil))))))))) [] rfl (by kernel_rfl) Sel.nil ?_
 refine AJ ?_;refine Add ?_;refine AJ ?_;refine BL (CS rfl (trWaits_spec (P:=P) (s:=s) bs) rfl rfl rdZ rfl rfl ?_);rintro _ rfl
 refine BL (CD rfl (trAdd_spec _ _ _ b4 b5) rfl rfl takesZ rdZ rfl rfl (fun _ _ _ w hw=>hw.sel Sel.nil) ?_)
 rintro _ _ ⟨rfl,rfl⟩;refine A7 ?_;refine AD ?_
 refine BD (.q 0 (.q 1 (.q 2 (.q 3 .nil)))) [] rfl (by kernel_rfl) Sel.nil ?_
 refine AS ?_;refine AS ?_;refine Abk ?_
 skip
 exact AK (H':=[sng bs (.cells #[int P.c.g,.slice pd Fd.length cd,int s.dat.sent,int s.dat.lost,int P.c.g,.slice pr Fr.length cr,int s.rep.sent,int s.rep.lost,.slice pp P.picks.length cp,int P.limit,.slice pq P.dark.length cq,int s.ent,int s.dis,y13,y14,y15,y16,y17,y18,y19,y20,y21,y22,y23,y24,y25,y26,y27,y28,int s.snd.due,int s.snd.st,y31,y32,y33,y34,.slice (some ⟨bw,ow,none⟩) s.wait.length cw,y36,y37,y38,y39] 85 (0,0)),σd,σr,σw]) (res2 rfl rfl rfl) rsubZ selZ ⟨by unfold nextM; rw [hwt]; rfl,rfl⟩
end Go.Proofs.YtahbngakckbenaaGreatDoor
namespace Go.Eng
def OwnQ (e:TypeId) (size:Nat) (v:Value) (n:Nat) (xs:List Value) (ρ:PH):Prop:=
  (v=.slice none 0 0∧n=0∧xs=[]∧ρ=emp)∨OwnO e size v n xs ρ
theorem OwnQ.ofS {e:TypeId} {size n:Nat} {v:Value} {xs:List Value} {ρ:PH} (h:OwnS e size v n xs ρ):OwnQ e size v n xs ρ:=by
  obtain ⟨hl,⟨h1,rfl,h0⟩|⟨b,cap,cur,rfl,rfl,h1,h2,h3,h4⟩⟩:=h
  · exact .inl ⟨h1,rfl,List.eq_nil_of_length_eq_zero (by simpa using hl),h0⟩
  · exact .inr ⟨hl,b,0,cap,cur,rfl,rfl,h1,h2,by omega,by simpa using h4⟩
theorem OwnQ.form {e:TypeId} {size n:Nat} {v:Value} {xs:List Value} {ρ:PH} (h:OwnQ e size v n xs ρ):∃ p c,v=.slice p n c:=by
  rcases h with ⟨rfl,rfl,_⟩|⟨_,b,o,cap,cur,rfl,_⟩
  · exact ⟨none,0,rfl⟩
  · exact ⟨_,cap,rfl⟩
theorem OwnQ.at {e:TypeId} {size n:Nat} {v:Value} {xs:List Value} {ρ:PH} (h:OwnQ e size v n xs ρ):SlAt ρ size v n xs:=by
  rcases h with ⟨rfl,rfl,rfl,_⟩|⟨hl,b,o,cap,cur,rfl,rfl,h1,h2,h3,h4⟩
  · exact ⟨by simp,.inl ⟨rfl,none,0,rfl⟩⟩
  · refine ⟨hl,.inr ⟨b,o,cap,rfl,fun j u hu=>?_⟩⟩
    rw [rdc_sng,← Array.getElem?_toList];rw [← h4,List.getElem?_take] at hu
    split at hu
    · rw [List.getElem?_drop] at hu
      exact hu
    · cases hu
theorem OwnQ.cut {e:TypeId} {s n c:Nat} {p:Option Addr} {a xs:List Value} {ρ:PH} (h:OwnQ e s (.slice p (n+1) c) (n+1) (a ++ xs) ρ) (ha:a.length=s):OwnQ e s (.slice (cutP p c 1 s) n (c-1)) n xs ρ:=by
  rcases h with ⟨_,h,_⟩|⟨hl,b,o,cap,cur,hv,rfl,h1,h2,h3,h4⟩
  · omega
  simp only [Value.slice.injEq] at hv
  obtain ⟨rfl,_,rfl⟩:=hv
  have hxl:xs.length=n*s:=by
    rw [List.length_append,ha,Nat.add_mul] at hl;omega
  refine .inr ⟨hxl,?_⟩;unfold cutP
  by_cases hc:c=1
  · rw [if_pos hc]
    have hn:n=0:=by omega
    subst hn
    have hx:xs=[]:=List.eq_nil_of_length_eq_zero (by simpa using hxl)
    subst hx
    exact ⟨b,o,c-1,cur,rfl,rfl,by omega,by omega,by rw [hc] at h3 ⊢; simp at h3 ⊢; omega,by simp⟩
  · rw [if_neg hc]
    refine ⟨b,o+1*s,c-1,cur,by simp [Addr.add_lit],rfl,by omega,by omega,?_,?_⟩
    · have:c*s=(c-1)*s+1*s:=by rw [← Nat.add_mul]; congr 1; omega
      omega
    · have h5:xs=(a ++ xs).drop s:=by rw [← ha,List.drop_left]
      rw [h5,← h4,List.drop_take,List.drop_drop]
      congr 1
      · rw [Nat.add_mul]; omega
      · congr 1; omega
theorem OwnQ.nil (e:TypeId) (size:Nat):OwnQ e size (.slice none 0 0) 0 [] emp:=.inl ⟨rfl,rfl,rfl,rfl⟩
section
variable {C:Cx} {R H:List PH} {L:Env} {dst:Option Tmp} {ty:TypeId} {pos:String} {aft:Array Edge} {g:Option (Nat × Bool)}
theorem D3 {x y:Operand} {t e:TypeId} {s by_:Nat} {z:Value} {v w0:Value} {m:Nat} {news:List Value} {ρ σ:PH} {H':List PH}
    (hx:evalE L x=some v) (hy:evalE L y=some w0) (ht:elemP C.P t=some e) (hs:szP C.P e=some s) (hz:zeroP C.P e=some z) (hb:bytesP C.P e=some by_)
    (hzs:z.cells.size=s) (hq:OwnQ e s v 0 [] ρ) (htk:Take ρ H H') (hw:SlAt σ s w0 m news) (hc:∀ b o,RdN σ b o news→Cells C.N R H' b o news) (h1:∀ u∈news,u.oneCell'=true) (hmax:m≤maxLen) (hby:m*by_≤140737488355328) :
    Loud C R H L ⟨dst,.call ⟨.builtin .append,#[x,y],#[t,t]⟩,ty,pos,aft,g⟩ (fun u H2=>∃ ρ',OwnQ e s u m news ρ'∧H2=ρ'::H'):=by
  rcases hq with ⟨rfl,_,_,rfl⟩|hO
  · refine ⟨fun a w hxx hsat next Q hnx=>(DE hx hy ht hs hz hb hzs (OwnS.nil e s) htk hw hc h1 (by omega) (by rw [Nat.zero_add]; exact hby)).run a w hxx hsat next Q (fun u H2 w' hp hs'=>hnx u H2 w' ?_ hs')⟩
    obtain ⟨ρ',k1,k2⟩:=hp
    rw [Nat.zero_add,List.nil_append] at k1;exact ⟨ρ',OwnQ.ofS k1,k2⟩
  rcases Nat.eq_zero_or_pos m with rfl|hm
  · have hn:news=[]:=List.eq_nil_of_length_eq_zero (by have:=hw.1; simpa using this)
    subst hn
    obtain ⟨p,c2,rfl⟩:=hw.cap
    have hO2:=hO
    obtain ⟨_,b,o,cap,cur,rfl,rfl,h2,_⟩:=hO2
    have hq:=FT (C:=C) (R:=R) (H:=H) (L:=L) (dst:=dst) (ty:=ty) (pos:=pos) (aft:=aft) (g:=g) hx hy ht hs h2
    refine ⟨fun a w hxx hsat next Q hnx=>hq.loud.run a w hxx hsat next Q (fun u H2 w' hp hs'=>?_)⟩
    obtain ⟨rfl,rfl⟩:=hp
    exact hnx _ _ _ ⟨_,.inr hO,rfl⟩ (hs'.take htk)
  · obtain ⟨hl,⟨h0,_⟩|⟨b2,o2,c2,rfl,hr⟩⟩:=hw
    · omega
    refine ⟨fun a w hxx hsat next Q hnx=>(FO hx hy ht hs hz hb hzs hO htk (hc b2 o2 hr) hl h1 (by omega) (by rw [Nat.zero_add]; exact hby)).run a w hxx hsat next Q (fun u H2 w' hp hs'=>hnx u H2 w' ?_ hs')⟩
    obtain ⟨ρ',k1,k2⟩:=hp
    rw [Nat.zero_add,List.nil_append] at k1;exact ⟨ρ',.inr k1,k2⟩
end
end Go.Eng
namespace Go.Proofs.YtahbngakckbenaaGreatDoor
open Go.Eng Go.Step
set_option maxRecDepth 100000
set_option maxHeartbeats 64000000
theorem trExpire_spec {σa σw:PH} {P:Par} {t0:Int} {s:Ss} {pa pp pq pw:Option Addr} {ka cp cq cw:Nat} {y0 y1 y2 y3 y4 y5 y6 y7 y13 y14 y31 y32 y33 y34 y36 y37 y38 y39:Value} (hP:okP P t0) (hsn:SdOK P s.K s.snd) (ha:SpAt σa (.slice pa s.snd.K.length ka) s.snd.K) (hq:OwnQ 39 9 (.slice pw s.wait.length cw) s.wait.length (s.wait.flatMap (encO 0 P.d)) σw) (hwe:waitsM s=true→s.snd.due=s.now→s.wait=[]) (hnow:s.now≤2199023255552) (bs:Nat) :
  Eng.Spec Tryz.prog (fv 138) [.pointer (some ⟨bs,0,none⟩)] [σa] [sng bs (.cells #[y0,y1,y2,y3,y4,y5,y6,y7,.slice pp P.picks.length cp,int P.limit,.slice pq P.dark.length cq,int s.ent,int s.dis,y13,y14,int s.now,int P.c.f,int P.c.t,int P.c.s,int P.c.e,int P.c.r,int P.c.g,int P.c.l,int 0,str P.d,int P.e,int s.snd.busy,int s.snd.sr,.slice pa s.snd.K.length ka,int s.snd.due,int s.snd.st,y31,y32,y33,y34,.slice pw s.wait.length cw,y36,y37,y38,y39] 85 (0,0)),σw] (fun r H'=>r=.tuple #[]∧∃ pw' cw' σw',OwnQ 39 9 (.slice pw' (expM P s).wait.length cw') (expM P s).wait.length ((expM P s).wait.flatMap (encO 0 P.d)) σw'∧H'=[sng bs (.cells #[y0,y1,y2,y3,y4,y5,y6,y7,.slice pp P.picks.length cp,int P.limit,.slice pq P.dark.length cq,int s.ent,int s.dis,y13,y14,int s.now,int P.c.f,int P.c.t,int P.c.s,int P.c.e,int P.c.r,int P.c.g,int P.c.l,int 0,str P.d,int P.e,int (expM P s).snd.busy,int (expM P s).snd.sr,.slice pa s.snd.K.length ka,int (expM P s).snd.due,int (expM P s).snd.st,y31,y32,y33,y34,.slice pw' (expM P s).wait.length cw',y36,y37,y38,y39] 85 (0,0)),σw']):=by
 have h2:=hP.h2
 have hcs:=chkCt_se hP.hc
 have hcr:=chkCt_rg hP.hc
 have f15:RdN (sng bs (.cells #[y0,y1,y2,y3,y4,y5,y6,y7,.slice pp P.picks.length cp,int P.limit,.slice pq P.dark.length cq,int s.ent,int s.dis,y13,y14,int s.now,int P.c.f,int P.c.t,int P.c.s,int P.c.e,int P.c.r,int P.c.g,int P.c.l,int 0,str P.d,int P.e,int s.snd.busy,int s.snd.sr,.slice pa s.snd.K.length ka,int s.snd.due,int s.snd.st,y31,y32,y33,y34,.slice pw s.wait.length cw,y36,y37,y38,y39] 85 (0,0))) bs 16 [int P.c.f,int P.c.t,int P.c.s,int P.c.e,int P.c.r,int P.c.g,int P.c.l,int 0,str P.d,int P.e,int s.snd.busy,int s.snd.sr,.slice pa s.snd.K.length ka,int s.snd.due,int s.snd.st]:=(rdP_sng (xs:=[y0,y1,y2,y3,y4,y5,y6,y7,.slice pp P.picks.length cp,int P.limit,.slice pq P.dark.length cq,int s.ent,int s.dis,y13,y14,int s.now,int P.c.f,int P.c.t,int P.c.s,int P.c.e,int P.c.r,int P.c.g,int P.c.l,int 0,str P.d,int P.e,int s.snd.busy,int s.snd.sr,.slice pa s.snd.K.length ka,int s.snd.due,int s.snd.st,y31,y32,y33,y34,.slice pw s.wait.length cw,y36,y37,y38,y39]) rfl).rd
 refine spec_in (cap:=[]) Tryz.func138 rfl rfl Tryz.ntmps138 rfl envZ (fun N β=>?_)
 refine Acz ?_
 refine BD (.q 0 (.l 1 .e (.q 2 (.q 3 (.q 4 (.q 5 (.q 6 (.q 7 (.q 8 (.q 9 (.q 10 (.q 11 (.q 12 (.q 13 (.q 14 .nil))))))))))))))) [] rfl (by kernel_rfl) Sel.nil ?_
 refine AJ ?_;refine BL (CS rfl (trWaits_spec (P:=P) (s:=s) bs) rfl rfl rdZ rfl rfl ?_);rintro _ rfl
 by_cases hwt:waitsM s=true
 rotate_left
 ·have hwf:waitsM s=false:=by simpa using hwt
  have hM:expM P s=s:=if_pos (.inl hwf)
  rw [hwf,hM];refine C8 ?_;refine Acv ?_;refine Aad ?_;refine B7 ?_;refine Acl ?_;exact AK (H':=[sng bs (.cells #[y0,y1,y2,y3,y4,y5,y6,y7,.slice pp P.picks.length cp,int P.limit,.slice pq P.dark.length cq,int s.ent,int s.dis,y13,y14,int s.now,int P.c.f,int P.c.t,int P.c.s,int P.c.e,int P.c.r,int P.c.g,int P.c.l,int 0,str P.d,int P.e,int s.snd.busy,int s.snd.sr,.slice pa s.snd.K.length ka,int s.snd.due,int s.snd.st,y31,y32,y33,y34,.slice pw s.wait.length cw,y36,y37,y38,y39] 85 (0,0)),σw]) (res0 rfl) rsubZ selZ ⟨rfl,pw,cw,σw,hq,rfl⟩
 rw [hwt]
 by_cases hdue:s.snd.due=s.now
 rotate_left
 ·have hM:expM P s=s:=if_pos (.inr hdue)
  rw [hM];refine C8 ?_;refine AJ ?_;refine Add ?_;refine Aav ?_;refine zd_ne ?_;refine BU ?_;refine Acl ?_;exact AK (H':=[sng bs (.cells #[y0,y1,y2,y3,y4,y5,y6,y7,.slice pp P.picks.length cp,int P.limit,.slice pq P.dark.length cq,int s.ent,int s.dis,y13,y14,int s.now,int P.c.f,int P.c.t,int P.c.s,int P.c.e,int P.c.r,int P.c.g,int P.c.l,int 0,str P.d,int P.e,int s.snd.busy,int s.snd.sr,.slice pa s.snd.K.length ka,int s.snd.due,int s.snd.st,y31,y32,y33,y34,.slice pw s.wait.length cw,y36,y37,y38,y39] 85 (0,0)),σw]) (res0 rfl) rsubZ selZ ⟨rfl,pw,cw,σw,hq,rfl⟩
 have hM:expM P s={ s with snd:=(waitM P s.snd s.now).1,wait:=s.wait ++ (waitM P s.snd s.now).2 }:=if_neg (fun h=>h.elim (fun h=>by rw [hwt] at h; cases h) (fun h=>h hdue))
 have hst:s.snd.st=1:=by
  unfold waitsM at hwt;simp only [Bool.and_eq_true,decide_eq_true_eq] at hwt;exact hwt.1
 rw [hst] at f15 ⊢
 obtain ⟨hKw,hdu⟩:s.snd.K≠[((0:Int),(P.d.length:Int))]∧s.snd.due=s.snd.busy+2*P.c.g+1:=by
  rcases hsn.st with ⟨_,g⟩|⟨g,_⟩|⟨g,_⟩
  ·exact g
  ·omega
  ·omega
 have hb:=hsn.b
 have hr:=hsn.r
 have hn1:=hP.n1
 have hn2:=hP.n2
 have hwt:=sndWait_spec (c:=P.c) (se:=0) (e:=P.e) (busy:=s.snd.busy) (sr:=s.snd.sr) (due:=s.snd.due) (t0:=s.now) (d:=P.d) (K:=s.snd.K) (p:=pa) (k:=ka) ha hP.hc ⟨by omega,by omega⟩ hn1 hn2 ⟨hb.1,hb.2,h2⟩ (by omega) hsn.k hKw hdu ⟨by omega,hnow⟩
 have hW:waitM P s.snd s.now=sendM P s.snd s.now (s.snd.sr+1) ((batM P s.snd).drop ((batM P s.snd).length-1)):=rfl
 have hwn:=hwe ‹_› hdue
 have hbm:batM P s.snd=bat (s.snd.sr+1) (pcsAll (missI P.d.length s.snd.K)):=rfl
 rw [hbm] at hW
 have hq0:OwnQ 39 9 (.slice pw s.wait.length cw) 0 [] σw:=by have h:=hq; rw [hwn] at h ⊢; exact h
 have hSM:sendM P s.snd s.now (s.snd.sr+1) ((bat (s.snd.sr+1) (pcsAll (missI P.d.length s.snd.K))).drop ((bat (s.snd.sr+1) (pcsAll (missI P.d.length s.snd.K))).length-1))=(if P.e<endG P.c.r s.now ((bat (s.snd.sr+1) (pcsAll (missI P.d.length s.snd.K))).drop ((bat (s.snd.sr+1) (pcsAll (missI P.d.length s.snd.K))).length-1)) then ({ s.snd with due:=0,st:=3 },[]) else (⟨endG P.c.r s.now ((bat (s.snd.sr+1) (pcsAll (missI P.d.length s.snd.K))).drop ((bat (s.snd.sr+1) (pcsAll (missI P.d.length s.snd.K))).length-1)),s.snd.sr+1,endG P.c.r s.now ((bat (s.snd.sr+1) (pcsAll (missI P.d.length s.snd.K))).drop ((bat (s.snd.sr+1) (pcsAll (missI P.d.length s.snd.K))).length-1))+2*P.c.g+1,1,s.snd.K⟩,timed P.c.r s.now ((bat (s.snd.sr+1) (pcsAll (missI P.d.length s.snd.K))).drop ((bat (s.snd.sr+1) (pcsAll (missI P.d.length s.snd.K))).length-1)))):=rfl
 have htl:=timed_len P.c.r ((bat (s.snd.sr+1) (pcsAll (missI P.d.length s.snd.K))).drop ((bat (s.snd.sr+1) (pcsAll (missI P.d.length s.snd.K))).length-1)) s.now
 have hgl:(((bat (s.snd.sr+1) (pcsAll (missI P.d.length s.snd.K))).drop ((bat (s.snd.sr+1) (pcsAll (missI P.d.length s.snd.K))).length-1))).length≤1:=by rw [List.length_drop]; omega
 rw [hM,hW,hSM];clear hM hW hSM hbm
 generalize ((bat (s.snd.sr+1) (pcsAll (missI P.d.length s.snd.K))).drop ((bat (s.snd.sr+1) (pcsAll (missI P.d.length s.snd.K))).length-1))=G at *
 generalize endG P.c.r s.now G=E at *
 refine C8 ?_;refine AJ ?_;refine Add ?_;refine Aav ?_;refine EI ?_;refine BU ?_;refine Abx ?_;refine AD ?_
 refine C3 (X:=Nat × List Value × Value × List PH) [0] (fun z=>(P.e<E∧z.2.1=[int P.c.f,int P.c.t,int P.c.s,int P.c.e,int P.c.r,int P.c.g,int P.c.l,int 0,str P.d,int P.e,int s.snd.busy,int s.snd.sr,.slice pa s.snd.K.length ka,int 0,int 3]∧z.2.2.1=.slice none 0 0∧z.2.2.2=[])∨(E≤P.e∧z.2.1=[int P.c.f,int P.c.t,int P.c.s,int P.c.e,int P.c.r,int P.c.g,int P.c.l,int 0,str P.d,int P.e,int E,int (s.snd.sr+1),.slice pa s.snd.K.length ka,int (E+2*P.c.g+1),int 1]∧∃ p4 c4 σ4,z.2.2.1=.slice p4 G.length c4∧OwnS 39 9 (.slice p4 (timed P.c.r s.now G).length c4) (timed P.c.r s.now G).length ((timed P.c.r s.now G).flatMap (encO 0 P.d)) σ4∧z.2.2.2=[σ4])) (fun z=>[(2,.pointer (some ⟨z.1,0,none⟩)),(3,z.2.2.1),(4,int 0)]) (fun z=>sng z.1 (.cells z.2.1.toArray 83 (0,0))::sng bs (.cells #[y0,y1,y2,y3,y4,y5,y6,y7,.slice pp P.picks.length cp,int P.limit,.slice pq P.dark.length cq,int s.ent,int s.dis,y13,y14,int s.now,int P.c.f,int P.c.t,int P.c.s,int P.c.e,int P.c.r,int P.c.g,int P.c.l,int 0,str P.d,int P.e,int s.snd.busy,int s.snd.sr,.slice pa s.snd.K.length ka,int s.snd.due,int 1,y31,y32,y33,y34,.slice pw s.wait.length cw,y36,y37,y38,y39] 85 (0,0))::σw::z.2.2.2) pickZ ?_ ?_
 ·refine BD (.q 0 (.q 1 (.q 2 (.q 3 (.q 4 (.q 5 (.q 6 (.q 7 (.l2 8 .e (.q 9 (.q 10 (.p 11 (.p 12 (.l 13 .e (.l 14 .b (.q 15 (.q 16 .nil)))))))) 13 .e (.l 8 .e (.q 9 (.q 10 (.p 11 (.p 12 (.l 14 .b (.q 15 (.q 16 .nil))))))))))))))))) [] rfl (by kernel_rfl) Sel.nil ?_
  repeat' (first
   | (refine AJ ?_)
   | (refine AS ?_)
   | (refine AU ?_)
   | (refine AT ?_)
   | (refine B8 ?_)
   | (refine CZ ?_ ?_)
   | (refine BZ ?_; rintro _ _ ⟨b,rfl,rfl⟩)
   | fail)
  ·refine BO rfl hwt rfl rfl rdZ rfl rfl ?_
   rintro _ _ (⟨hlate,rfl,rfl⟩|⟨hok,p4,c4,σ4,rfl,hO4,rfl⟩)
   ·refine AJ ?_
    refine Acb ?_;refine BV ?_; rintro _ _ ⟨b,rfl,rfl⟩
    revert b; intro b2
    skip
    refine BL ?_;refine' CG rfl _ rfl rfl _ _
    rotate_left
    ·apply A9; exact rfl; exact rfl; exact takeZ; exact oneZ; exact rfl; exact rfl
    ·rintro _ _ ⟨_,rfl⟩ w hw; exact hw.sel Sel.nil
    rintro _ _ ⟨rfl,rfl⟩;refine Abk ?_
    skip
    exact BB (b2,[int P.c.f,int P.c.t,int P.c.s,int P.c.e,int P.c.r,int P.c.g,int P.c.l,int 0,str P.d,int P.e,int s.snd.busy,int s.snd.sr,.slice pa s.snd.K.length ka,int 0,int 3],.slice none 0 0,[]) (.inl ⟨hlate,rfl,rfl,rfl⟩) covZ selZ
   ·refine AJ ?_
    refine Acb ?_;refine BV ?_; rintro _ _ ⟨b,rfl,rfl⟩
    revert b; intro b2
    skip
    refine BL ?_;refine' CG rfl _ rfl rfl _ _
    rotate_left
    ·apply A9; exact rfl; exact rfl; exact takeZ; exact oneZ; exact rfl; exact rfl
    ·rintro _ _ ⟨_,rfl⟩ w hw; exact hw.sel Sel.nil
    rintro _ _ ⟨rfl,rfl⟩;refine Abk ?_
    skip
    exact BB (b2,[int P.c.f,int P.c.t,int P.c.s,int P.c.e,int P.c.r,int P.c.g,int P.c.l,int 0,str P.d,int P.e,int E,int (s.snd.sr+1),.slice pa s.snd.K.length ka,int (E+2*P.c.g+1),int 1],.slice p4 G.length c4,[σ4]) (.inr ⟨hok,rfl,p4,c4,σ4,rfl,hO4,rfl⟩) covZ selZ
  ·revert b; intro b2
   refine BL (BO rfl hwt rfl rfl rdZ rfl rfl ?_);rintro _ _ (⟨hlate,rfl,rfl⟩|⟨hok,p4,c4,σ4,rfl,hO4,rfl⟩)
   ·refine AJ ?_
    refine Acb ?_;refine BL ?_;refine' CG rfl _ rfl rfl _ _
    rotate_left
    ·apply A9; exact rfl; exact rfl; exact takeZ; exact oneZ; exact rfl; exact rfl
    ·rintro _ _ ⟨_,rfl⟩ w hw; exact hw.sel Sel.nil
    rintro _ _ ⟨rfl,rfl⟩;refine Abk ?_
    skip
    exact BB (b2,[int P.c.f,int P.c.t,int P.c.s,int P.c.e,int P.c.r,int P.c.g,int P.c.l,int 0,str P.d,int P.e,int s.snd.busy,int s.snd.sr,.slice pa s.snd.K.length ka,int 0,int 3],.slice none 0 0,[]) (.inl ⟨hlate,rfl,rfl,rfl⟩) covZ selZ
   ·refine AJ ?_
    refine Acb ?_;refine BL ?_;refine' CG rfl _ rfl rfl _ _
    rotate_left
    ·apply A9; exact rfl; exact rfl; exact takeZ; exact oneZ; exact rfl; exact rfl
    ·rintro _ _ ⟨_,rfl⟩ w hw; exact hw.sel Sel.nil
    rintro _ _ ⟨rfl,rfl⟩;refine Abk ?_
    skip
    exact BB (b2,[int P.c.f,int P.c.t,int P.c.s,int P.c.e,int P.c.r,int P.c.g,int P.c.l,int 0,str P.d,int P.e,int E,int (s.snd.sr+1),.slice pa s.snd.K.length ka,int (E+2*P.c.g+1),int 1],.slice p4 G.length c4,[σ4]) (.inr ⟨hok,rfl,p4,c4,σ4,rfl,hO4,rfl⟩) covZ selZ
 rintro ⟨b2,vs,u,Hl⟩ hz
 dsimp only at hz ⊢
 rcases hz with ⟨hlate,rfl,rfl,rfl⟩|⟨hok,rfl,p4,c4,σ4,rfl,hO4,rfl⟩
 ·rw [if_pos hlate]
  dsimp only
  refine Aco ?_;refine Aab ?_;refine AV ?_;refine Aa2 ?_
  refine BR (CU (vs:=[int P.c.f,int P.c.t,int P.c.s,int P.c.e,int P.c.r,int P.c.g,int P.c.l,int 0,str P.d,int P.e,int s.snd.busy,int s.snd.sr,.slice pa s.snd.K.length ka,int 0,int 3]) rfl rfl oneZ rfl takeZ (by show 16+15≤40; omega)) rfl rfl ?_
  rintro _ _ ⟨rfl,rfl⟩
  change JK _ _ _ (sng bs (.cells #[y0,y1,y2,y3,y4,y5,y6,y7,.slice pp P.picks.length cp,int P.limit,.slice pq P.dark.length cq,int s.ent,int s.dis,y13,y14,int s.now,int P.c.f,int P.c.t,int P.c.s,int P.c.e,int P.c.r,int P.c.g,int P.c.l,int 0,str P.d,int P.e,int s.snd.busy,int s.snd.sr,.slice pa s.snd.K.length ka,int 0,int 3,y31,y32,y33,y34,.slice pw s.wait.length cw,y36,y37,y38,y39] 85 (0,0))::_) _ _
  refine AE ?_;refine Ab5 ?_;refine Aa5 ?_;refine AB ?_;refine CB ?_;refine AZ (ρ:=emp) takeZ ?_
  refine BK (D3 (by_:=96) (s:=9) (w0:=.slice none 0 0) (σ:=emp) (m:=0) (news:=[]) rfl rfl rfl rfl rfl rfl rfl hq0 takeZ ⟨rfl,.inl ⟨rfl,none,0,rfl⟩⟩ (fun b o h=>cellsR h memZ) (by simp) (by simp only [maxLen]; omega) (by omega)) rfl rfl rfl ?_
  rintro u2 _ ⟨σz,hQ,rfl⟩
  obtain ⟨pz,cz,rfl⟩:=hQ.form
  refine Aa2 ?_;refine BA ?_; rintro _ _ ⟨rfl,rfl⟩;refine AE ?_
  exact BW (H':=[sng bs (.cells #[y0,y1,y2,y3,y4,y5,y6,y7,.slice pp P.picks.length cp,int P.limit,.slice pq P.dark.length cq,int s.ent,int s.dis,y13,y14,int s.now,int P.c.f,int P.c.t,int P.c.s,int P.c.e,int P.c.r,int P.c.g,int P.c.l,int 0,str P.d,int P.e,int s.snd.busy,int s.snd.sr,.slice pa s.snd.K.length ka,int 0,int 3,y31,y32,y33,y34,.slice pz 0 cz,y36,y37,y38,y39] 85 (0,0)),σz]) (res0 rfl) rsubZ selZ ⟨rfl,pz,cz,σz,by rw [hwn]; exact hQ,by rw [hwn]; rfl⟩
 ·rw [if_neg (by omega)]
  dsimp only
  refine Aco ?_;refine Aab ?_;refine AV ?_;refine Aa2 ?_
  refine BR (CU (vs:=[int P.c.f,int P.c.t,int P.c.s,int P.c.e,int P.c.r,int P.c.g,int P.c.l,int 0,str P.d,int P.e,int E,int (s.snd.sr+1),.slice pa s.snd.K.length ka,int (E+2*P.c.g+1),int 1]) rfl rfl oneZ rfl takeZ (by show 16+15≤40; omega)) rfl rfl ?_
  rintro _ _ ⟨rfl,rfl⟩
  change JK _ _ _ (sng bs (.cells #[y0,y1,y2,y3,y4,y5,y6,y7,.slice pp P.picks.length cp,int P.limit,.slice pq P.dark.length cq,int s.ent,int s.dis,y13,y14,int s.now,int P.c.f,int P.c.t,int P.c.s,int P.c.e,int P.c.r,int P.c.g,int P.c.l,int 0,str P.d,int P.e,int E,int (s.snd.sr+1),.slice pa s.snd.K.length ka,int (E+2*P.c.g+1),int 1,y31,y32,y33,y34,.slice pw s.wait.length cw,y36,y37,y38,y39] 85 (0,0))::_) _ _
  refine AE ?_;refine Ab5 ?_;refine Aa5 ?_;refine AB ?_;rw [← htl]
  refine BK (D3 (by_:=96) (s:=9) (w0:=.slice p4 (timed P.c.r s.now G).length c4) (σ:=σ4) (m:=(timed P.c.r s.now G).length) (news:=(timed P.c.r s.now G).flatMap (encO 0 P.d)) rfl rfl rfl rfl rfl rfl rfl hq0 takeZ hO4.at (fun b o h=>cellsH h memZ) (fun u hu=>by obtain ⟨y,_,hy⟩:=List.mem_flatMap.1 hu; exact encO_ones 0 P.d y u hy) (by rw [htl]; simp only [maxLen]; omega) (by rw [htl]; omega)) rfl rfl rfl ?_
  rintro u2 _ ⟨σz,hQ,rfl⟩
  obtain ⟨pz,cz,rfl⟩:=hQ.form
  refine Aa2 ?_;refine BA ?_; rintro _ _ ⟨rfl,rfl⟩;refine AE ?_
  exact BW (H':=[sng bs (.cells #[y0,y1,y2,y3,y4,y5,y6,y7,.slice pp P.picks.length cp,int P.limit,.slice pq P.dark.length cq,int s.ent,int s.dis,y13,y14,int s.now,int P.c.f,int P.c.t,int P.c.s,int P.c.e,int P.c.r,int P.c.g,int P.c.l,int 0,str P.d,int P.e,int E,int (s.snd.sr+1),.slice pa s.snd.K.length ka,int (E+2*P.c.g+1),int 1,y31,y32,y33,y34,.slice pz (timed P.c.r s.now G).length cz,y36,y37,y38,y39] 85 (0,0)),σz]) (res0 rfl) rsubZ selZ ⟨rfl,pz,cz,σz,by rw [hwn]; exact hQ,by rw [hwn]; rfl⟩
end Go.Proofs.YtahbngakckbenaaGreatDoor
namespace Go.Step
open Go.Eng
theorem enter0_frame (P:Par) (s:Ss) (t:Int) (x:Sg):∃ c d e o,enter0 P s t x={ s with dat:=c,dis:=d,ent:=e,out0:=o }:=by
  unfold enter0
  split
  · exact ⟨_,_,_,_,rfl⟩
  · cases chSend P.c.g s.dat t (.dat x) (delM P s t).1 with
    | none=>exact ⟨_,_,_,_,rfl⟩
    | some c=>exact ⟨_,_,_,_,rfl⟩
theorem enter1_frame (P:Par) (s:Ss) (t sr:Int) (C:Iv):∃ c d e o,enter1 P s t sr C={ s with rep:=c,dis:=d,ent:=e,out1:=o }:=by
  unfold enter1
  split
  · exact ⟨_,_,_,_,rfl⟩
  · cases chSend P.c.g s.rep t (.rep sr C) (delM P s t).1 with
    | none=>exact ⟨_,_,_,_,rfl⟩
    | some c=>exact ⟨_,_,_,_,rfl⟩
theorem delM_dis (P:Par) (s:Ss) (t:Int):s.dis≤(delM P s t).2∧(delM P s t).2≤s.dis+1:=by
  unfold delM
  split
  · dsimp only; omega
  split
  · dsimp only; omega
  dsimp only
  split
  · dsimp only; omega
  split
  · dsimp only; omega
  · dsimp only; omega
theorem enter0_dis (P:Par) (s:Ss) (t:Int) (x:Sg):s.dis≤(enter0 P s t x).dis∧(enter0 P s t x).dis≤s.dis+1:=by
  have h:=delM_dis P s t
  unfold enter0
  split
  · omega
  · cases chSend P.c.g s.dat t (.dat x) (delM P s t).1 <;> exact h
theorem enter1_dis (P:Par) (s:Ss) (t sr:Int) (C:Iv):s.dis≤(enter1 P s t sr C).dis∧(enter1 P s t sr C).dis≤s.dis+1:=by
  have h:=delM_dis P s t
  unfold enter1
  split
  · omega
  · cases chSend P.c.g s.rep t (.rep sr C) (delM P s t).1 <;> exact h
theorem enter0_wait (P:Par) (s:Ss) (w:List (Int × Sg)) (t:Int) (x:Sg):enter0 P { s with wait:=w } t x={ enter0 P s t x with wait:=w }:=by
  unfold enter0
  split
  · rfl
  · show (match chSend P.c.g s.dat t (.dat x) (delM P s t).1 with|none=>_|some c=>_)=_
    cases chSend P.c.g s.dat t (.dat x) (delM P s t).1 <;> rfl
theorem trM_wait (P:Par):∀ (w:List (Int × Sg)) (s:Ss) (v:List (Int × Sg)),trM P w { s with wait:=v }=trM P w s
  | [],s,v=>rfl
  | (t,x)::w,s,v=>by
    unfold trM
    split
    · show trM P w (enter0 P { s with wait:=v } s.now x)=_
      rw [enter0_wait,trM_wait]
    · rfl
theorem trM_nil {P:Par} {s:Ss} (h:s.wait=[]):trM P s.wait s=s:=by
  rw [h]
  show ({ s with wait:=[] }:Ss)=s
  rw [← h]
theorem trM_stop {P:Par} {s:Ss} {t:Int} {x:Sg} {w:List (Int × Sg)} (h:s.wait=(t,x)::w) (ht:t≠s.now):trM P s.wait s=s:=by
  rw [h];unfold trM;rw [if_neg ht,← h]
theorem trM_go {P:Par} {s:Ss} {t:Int} {x:Sg} {w:List (Int × Sg)} (h:s.wait=(t,x)::w) (ht:t=s.now):trM P s.wait s=trM P w { enter0 P s s.now x with wait:=w }:=by
  rw [h]
  conv=>lhs; unfold trM
  rw [if_pos ht];exact (trM_wait P w _ _).symm
theorem trM1_ok {P:Par} {t0:Int} (hP:okP P t0) {ld lr lt:Int} {s:Ss} {x:Sg} {w:List (Int × Sg)} (ht:t0<s.now) (hl:ld≤s.now+P.c.g) (h:SI P t0 s ld lr s.now lt) (hw:s.wait=(s.now,x)::w) :
    SI P t0 { enter0 P s s.now x with wait:=w } ld lr s.now lt:=by
  obtain ⟨w1,w2,w3⟩:=h.wt (s.now,x) (by rw [hw]; simp)
  have hws:=h.ws
  rw [hw] at hws
  obtain ⟨p1,p2⟩:=List.pairwise_cons.1 hws
  dsimp only at w1 w2 w3
  have hle:s.now≤P.e:=by have:=h.sn.b.2; omega
  have hS:SI P t0 { s with wait:=w } ld lr s.now lt:=⟨h.dat,h.rep,fun y hy=>h.wt y (by rw [hw]; exact List.mem_cons_of_mem _ hy),p2,h.du,h.sn,h.k,h.o0,h.o1,h.en,h.kn⟩
  have k1:=(enter0_ok hP (t:=s.now) hS w3 ⟨by omega,hle⟩ (by omega)).1
  rw [enter0_wait] at k1;exact k1
theorem trM_dis (P:Par):∀ (w:List (Int × Sg)) (s:Ss),s.dis≤(trM P w s).dis∧(trM P w s).dis≤s.dis+w.length
  | [],s=>⟨Int.le_refl _,by show s.dis≤_; simp⟩
  | (t,x)::w,s=>by
    unfold trM
    split
    · have h1:=enter0_dis P s s.now x
      have h2:=trM_dis P w (enter0 P s s.now x)
      rw [List.length_cons];omega
    · show s.dis≤s.dis∧s.dis≤_
      omega
theorem trM_wlen (P:Par):∀ (w:List (Int × Sg)) (s:Ss),(trM P w s).wait.length≤w.length
  | [],s=>Nat.le_refl _
  | (t,x)::w,s=>by
    unfold trM
    split
    · have:=trM_wlen P w (enter0 P s s.now x)
      rw [List.length_cons];omega
    · exact Nat.le_refl _
end Go.Step
namespace Go.Proofs.YtahbngakckbenaaGreatDoor
open Go.Eng Go.Step
set_option maxRecDepth 100000
set_option maxHeartbeats 64000000
theorem RdN.drop1 {ρ:PH} {b o:Nat} {v:Value} {vs:List Value} (h:RdN ρ b (o+0*9) (v::vs)):RdP ρ b (o+1) vs:=⟨fun j u hu=>by have:=h (j+1) u (by simpa using hu); rw [show o+1+j=o+0*9+(j+1) by omega]; exact this⟩
structure Mm where
 F:List (Frm × Value)
 G:List (Frm × Value)
 O:List ((Int × Int × Iv) × Value)
 p0:Option Addr
 p1:Option Addr
 p2:Option Addr
 p3:Option Addr
 p4:Option Addr
 p5:Option Addr
 p6:Option Addr
 c0:Nat
 c1:Nat
 c2:Nat
 c3:Nat
 c4:Nat
 c5:Nat
 c6:Nat
structure S6 where
 a:PH
 b:PH
 c:PH
 d:PH
 e:PH
 f:PH
def sesB (pp pq:Option Addr) (cp cq:Nat) (P:Par) (s:Ss) (M:Mm) (bs:Nat):PH:=sng bs (.cells #[int P.c.g,.slice M.p0 M.F.length M.c0,int s.dat.sent,int s.dat.lost,int P.c.g,.slice M.p1 M.G.length M.c1,int s.rep.sent,int s.rep.lost,.slice pp P.picks.length cp,int P.limit,.slice pq P.dark.length cq,int s.ent,int s.dis,.slice M.p2 s.out0.length M.c2,.slice M.p3 M.O.length M.c3,int s.now,int P.c.f,int P.c.t,int P.c.s,int P.c.e,int P.c.r,int P.c.g,int P.c.l,int 0,str P.d,int P.e,int s.snd.busy,int s.snd.sr,.slice M.p4 s.snd.K.length M.c4,int s.snd.due,int s.snd.st,int 0,int (totR P.d s.K),.slice M.p5 s.K.length M.c5,str (datR P.d s.K),.slice M.p6 s.wait.length M.c6,.bool s.rcvd,int s.arr,.bool s.kn,int s.knAt] 85 (0,0))
structure MOK (P:Par) (s:Ss) (M:Mm) (σ:S6):Prop where
 d:OwnS 295 10 (.slice M.p0 M.F.length M.c0) M.F.length (M.F.flatMap (encF P.d)) σ.a
 dm:M.F.map (·.1)=s.dat.fr
 d1:∀ f∈M.F,f.2=.slice none 0 0
 r:OwnS 295 10 (.slice M.p1 M.G.length M.c1) M.G.length (M.G.flatMap (encF P.d)) σ.b
 rm:M.G.map (·.1)=s.rep.fr
 r1:∀ f∈M.G,∃ sr C p c,f.1.g=.rep sr C∧f.2=.slice p C.length c∧SpAt σ.f (.slice p C.length c) C
 o0:OwnS 39 9 (.slice M.p2 s.out0.length M.c2) s.out0.length (s.out0.flatMap (encO 0 P.d)) σ.c
 o1:OwnS 39 9 (.slice M.p3 M.O.length M.c3) M.O.length (M.O.flatMap (encR1 P.d)) σ.d
 om:M.O.map (·.1)=s.out1
 o2:∀ y∈M.O,∃ p c,y.2=.slice p y.1.2.2.length c∧SpAt σ.f (.slice p y.1.2.2.length c) y.1.2.2
 w:OwnQ 39 9 (.slice M.p6 s.wait.length M.c6) s.wait.length (s.wait.flatMap (encO 0 P.d)) σ.e
 a:SpAt σ.f (.slice M.p4 s.snd.K.length M.c4) s.snd.K
 k:SpAt σ.f (.slice M.p5 s.K.length M.c5) s.K
structure FixOK (P:Par) (t0:Int) (pp pq:Option Addr) (cp cq:Nat) (ρp ρd:PH):Prop where
 ok:okP P t0
 p:IntsAt ρp (.slice pp P.picks.length cp) P.picks
 pk:∀ x∈P.picks,-9223372036854775808≤x∧x≤9223372036854775807
 pl:P.picks.length≤1000
 q:SpAt ρd (.slice pq P.dark.length cq) P.dark
 q0:chkI P.dark=0
theorem trTransmit_spec {ρp ρd:PH} {P:Par} {t0:Int} {s:Ss} {pp pq:Option Addr} {cp cq:Nat} {M:Mm} {σ:S6} {ld lr lt:Int} (hF:FixOK P t0 pp pq cp cq ρp ρd) (hS:SI P t0 s ld lr s.now lt) (ht:t0<s.now) (hl:ld≤s.now+P.c.g) (hld:0≤ld) (hdis:0≤s.dis∧s.dis+s.wait.length≤1152921504606846976) (hM:MOK P s M σ) (bs:Nat) :
  Eng.Spec Tryz.prog (fv 135) [.pointer (some ⟨bs,0,none⟩)] [ρp,ρd] [sesB pp pq cp cq P s M bs,σ.a,σ.b,σ.c,σ.d,σ.e,σ.f] (fun r H'=>r=.tuple #[]∧∃ M' σ',MOK P (trM P s.wait s) M' σ'∧H'=[sesB pp pq cp cq P (trM P s.wait s) M' bs,σ'.a,σ'.b,σ'.c,σ'.d,σ'.e,σ'.f]):=by
 have hP:=hF.ok
 have h0:=hP.h0
 have h2:=hP.h2
 have hcs:=chkCt_se hP.hc
 have hcr:=chkCt_rg hP.hc
 refine spec_in (cap:=[]) Tryz.func135 rfl rfl Tryz.ntmps135 rfl envZ (fun N β=>?_)
 refine A8 ?_
 refine BX [0] (X:=Ss × Mm × S6) (s,M,σ) (fun z=>SI P t0 z.1 ld lr s.now lt∧z.1.now=s.now∧trM P z.1.wait z.1=trM P s.wait s∧MOK P z.1 z.2.1 z.2.2∧0≤z.1.dis∧z.1.dis+z.1.wait.length≤1152921504606846976) (fun _=>[]) (fun z=>[sesB pp pq cp cq P z.1 z.2.1 bs,z.2.2.a,z.2.2.b,z.2.2.c,z.2.2.d,z.2.2.e,z.2.2.f]) (fun z=>z.1.wait.length) pickZ ⟨hS,rfl,rfl,hM,hdis⟩ covZ selZ ?_
 rintro ⟨s1,⟨F,G,O,p0,p1,p2,p3,p4,p5,p6,c0,c1,c2,c3,c4,c5,c6⟩,σ1⟩ ⟨hS1,hn1,hR1,hM1,hd1⟩
 dsimp only at hS1 hn1 hR1 hM1 hd1 ⊢
 unfold sesB
 dsimp only
 rw [← hn1] at hS1
 have hw1:SlE (encO 0 P.d) 9 σ1.e (.slice p6 s1.wait.length c6) s1.wait:=OwnQ.at hM1.w
 obtain ⟨_,_,e0,hrw⟩:=hw1.val (encO_len 0 P.d)
 simp only [Value.slice.injEq] at e0
 obtain ⟨rfl,_,rfl⟩:=e0
 rcases hwt:s1.wait with _|⟨⟨t,x⟩,w⟩
 ·have hl0:s1.wait.length=0:=by rw [hwt]; rfl
  rw [← hwt];rw [trM_nil hwt] at hR1;refine Acz ?_
  refine BD P6Z [] rfl (by kernel_rfl) Sel.nil ?_
  refine Aav ?_;refine CT ?_;refine DA ?_;refine Acv ?_;refine Ab ?_;refine BU ?_;refine A7 ?_;refine Aay ?_
  exact BW (H':=[sng bs (.cells #[int P.c.g,.slice p0 F.length c0,int s1.dat.sent,int s1.dat.lost,int P.c.g,.slice p1 G.length c1,int s1.rep.sent,int s1.rep.lost,.slice pp P.picks.length cp,int P.limit,.slice pq P.dark.length cq,int s1.ent,int s1.dis,.slice p2 s1.out0.length c2,.slice p3 O.length c3,int s1.now,int P.c.f,int P.c.t,int P.c.s,int P.c.e,int P.c.r,int P.c.g,int P.c.l,int 0,str P.d,int P.e,int s1.snd.busy,int s1.snd.sr,.slice p4 s1.snd.K.length c4,int s1.snd.due,int s1.snd.st,int 0,int (totR P.d s1.K),.slice p5 s1.K.length c5,str (datR P.d s1.K),.slice p6 s1.wait.length c6,.bool s1.rcvd,int s1.arr,.bool s1.kn,int s1.knAt] 85 (0,0)),σ1.a,σ1.b,σ1.c,σ1.d,σ1.e,σ1.f]) (res0 rfl) rsubZ selZ ⟨rfl,⟨F,G,O,p0,p1,p2,p3,p4,p5,p6,c0,c1,c2,c3,c4,c5,c6⟩,σ1,by rw [← hR1]; exact hM1,by rw [← hR1]⟩
 have hl0:s1.wait.length=w.length+1:=by rw [hwt]; rfl
 obtain ⟨bw,ow,rfl,hR⟩:=hrw 0 (t,x) (by rw [hwt]; rfl)
 have z0:rdc σ1.e bw (ow+0*9)=some (int t):=RdN.get0 hR
 have z1:rdc σ1.e bw ow=some (int t):=by rw [Nat.zero_mul] at z0; exact z0
 have z2:RdP σ1.e bw (ow+1) [int 1,int 0,int x.sr,int (x.a:Int),int (P.d.length:Int),.bool (decide (1≤x.sr)),str (cutD P.d x.a x.b),.slice none 0 0]:=RdN.drop1 hR
 rw [← hwt]
 by_cases htn:t=s1.now
 rotate_left
 ·rw [trM_stop hwt htn] at hR1
  refine Acz ?_
  refine BD P6Z [] rfl (by kernel_rfl) Sel.nil ?_
  refine Aav ?_;refine CT ?_;refine EJ ?_;refine AJ ?_;refine Aav ?_;refine DY ?_;refine C4 ?_;refine AS ?_;refine Aav ?_;refine E3 ?_;refine B7 ?_;refine A7 ?_;refine Aay ?_
  exact BW (H':=[sng bs (.cells #[int P.c.g,.slice p0 F.length c0,int s1.dat.sent,int s1.dat.lost,int P.c.g,.slice p1 G.length c1,int s1.rep.sent,int s1.rep.lost,.slice pp P.picks.length cp,int P.limit,.slice pq P.dark.length cq,int s1.ent,int s1.dis,.slice p2 s1.out0.length c2,.slice p3 O.length c3,int s1.now,int P.c.f,int P.c.t,int P.c.s,int P.c.e,int P.c.r,int P.c.g,int P.c.l,int 0,str P.d,int P.e,int s1.snd.busy,int s1.snd.sr,.slice p4 s1.snd.K.length c4,int s1.snd.due,int s1.snd.st,int 0,int (totR P.d s1.K),.slice p5 s1.K.length c5,str (datR P.d s1.K),.slice (some ⟨bw,ow,none⟩) s1.wait.length c6,.bool s1.rcvd,int s1.arr,.bool s1.kn,int s1.knAt] 85 (0,0)),σ1.a,σ1.b,σ1.c,σ1.d,σ1.e,σ1.f]) (res0 rfl) rsubZ selZ ⟨rfl,⟨F,G,O,p0,p1,p2,p3,p4,p5,(some ⟨bw,ow,none⟩),c0,c1,c2,c3,c4,c5,c6⟩,σ1,by rw [← hR1]; exact hM1,by rw [← hR1]⟩
 subst htn;refine Acz ?_
 refine BD P6Z [] rfl (by kernel_rfl) Sel.nil ?_
 refine Aav ?_;refine CT ?_;refine EJ ?_;refine AJ ?_;refine Aav ?_;refine DY ?_;refine C4 ?_;refine AS ?_;refine Aav ?_;refine FB ?_;refine B7 ?_;refine A7 ?_;refine Aa6 ?_;refine A8 ?_;refine AD ?_
 have hSn:=trM1_ok hP (by omega) (by omega) hS1 hwt
 have hgo:=trM_go (P:=P) hwt rfl
 have hdd:=enter0_dis P s1 s1.now x
 obtain ⟨cd,dd,ed,od,hE⟩:=enter0_frame P s1 s1.now x
 have hlst:=hS1.dat.lst
 have hlst1:=hS1.rep.lst
 have hen:=hS1.en
 have hnw:=(hS1.wt (s1.now,x) (by rw [hwt]; simp)).2.1
 have hbz:=hS1.sn.b
 dsimp only at hnw
 have hsp:=trEnter0_spec (y4:=int P.c.g) (y5:=.slice p1 G.length c1) (y6:=int s1.rep.sent) (y7:=int s1.rep.lost) (y14:=.slice p3 O.length c3) (y15:=int s1.now) (y16:=int P.c.f) (y17:=int P.c.t) (y18:=int P.c.s) (y19:=int P.c.e) (y20:=int P.c.r) (y21:=int P.c.g) (y22:=int P.c.l) (y23:=int 0) (y24:=str P.d) (y25:=int P.e) (y26:=int s1.snd.busy) (y27:=int s1.snd.sr) (y28:=.slice p4 s1.snd.K.length c4) (y29:=int s1.snd.due) (y30:=int s1.snd.st) (y31:=int 0) (y32:=int (totR P.d s1.K)) (y33:=.slice p5 s1.K.length c5) (y34:=str (datR P.d s1.K)) (y35:=.slice (some ⟨bw,ow,none⟩) s1.wait.length c6) (y36:=.bool s1.rcvd) (y37:=int s1.arr) (y38:=.bool s1.kn) (y39:=int s1.knAt) (v:=.slice none 0 0) (x:=x) (t:=s1.now) hF.p hF.pk hF.pl hF.q hF.q0 ⟨by omega,by omega⟩ ⟨by omega,by omega⟩ ⟨by omega,by omega⟩ (delM_ok hP s1 s1.now) ⟨by omega,by omega⟩ hM1.d (fun f hf=>by rw [hM1.d1 f hf]; rfl) hM1.dm hS1.dat hld (by omega) (by omega) hM1.o0 rfl (by omega) rfl rfl bs
 rw [hE] at hsp hSn hgo hdd
 dsimp only at hsp hSn hdd hgo
 rw [hgo] at hR1
 refine BD (.q 0 (.q 1 (.q 2 (.q 3 (.q 4 (.q 5 (.q 6 (.q 7 (.q 8 (.q 9 (.q 10 (.q 11 (.q 12 (.q 13 (.q 14 (.q 15 (.q 16 (.q 17 (.l 18 .b .nil))))))))))))))))))) [] rfl (by kernel_rfl) Sel.nil ?_
 refine Abz ?_;refine Abz ?_;refine AU ?_;refine Ab2 ?_;refine DY ?_;refine CX ?_
 focus ((refine CF rfl (CH rfl rfl (cellsH z2.rd memZ) rfl) rfl rfl rfl rfl ?_))
 refine BL (CD rfl hsp rfl rfl takesZ rdZ rfl rfl (fun _ _ _ w hw=>hw.sel Sel.nil) ?_)
 rintro _ _ ⟨rfl,F',p',c',σ',O',po',co',σo',e1,e2,hO',e3,hO2,rfl⟩;subst e3;refine A7 ?_;refine Ab5 ?_;refine Aa5 ?_
 focus ((refine BQ (D6 (i:=1) rfl rfl rfl rfl (by omega)) rfl rfl rfl ?_))
 refine Aa2 ?_;refine BA ?_; rintro _ _ ⟨rfl,rfl⟩;refine AE ?_;refine BI ?_
 have hwq:=hM1.w
 dsimp only at hwq
 rw [hwt] at hwq
 have hwq2:=OwnQ.cut hwq (encO_len 0 P.d _)
 have hlw:s1.wait.length-1=w.length:=by omega
 rw [hlw]
 exact BH (⟨cd,s1.rep,ed,dd,O',s1.out1,s1.now,s1.snd,s1.K,w,s1.rcvd,s1.arr,s1.kn,s1.knAt⟩,⟨F',G,O,p',p1,po',p3,p4,p5,_,c',c1,co',c3,c4,c5,c6-1⟩,⟨σ',σ1.b,σo',σ1.d,σ1.e,σ1.f⟩) ⟨by rw [← hn1]; exact hSn,hn1,hR1,⟨hO',e1,fun f hf=>(e2 f hf).elim (hM1.d1 f) (·.1),hM1.r,hM1.rm,hM1.r1,hO2,hM1.o1,hM1.om,hM1.o2,hwq2,hM1.a,hM1.k⟩,by dsimp only; omega,by dsimp only; omega⟩ (by dsimp only; omega) covZ selZ
end Go.Proofs.YtahbngakckbenaaGreatDoor
namespace Go.Step
open Go.Eng
def dlvA (P:Par) (s:Ss) (x:Sg):Ss:=
  if 1≤x.sr then enter1 P { s with K:=unionI s.K [((x.a:Int),(x.b:Int))] } s.now x.sr (unionI s.K [((x.a:Int),(x.b:Int))]) else { s with K:=unionI s.K [((x.a:Int),(x.b:Int))] }
def dlvB (P:Par) (s:Ss):Ss:=if s.rcvd=false∧s.K=[((0:Int),(P.d.length:Int))] then { s with rcvd:=true,arr:=s.now } else s
theorem dlvA_frame (P:Par) (s:Ss) (x:Sg):∃ c d e o,dlvA P s x={ s with rep:=c,dis:=d,ent:=e,out1:=o,K:=unionI s.K [((x.a:Int),(x.b:Int))] }:=by
  unfold dlvA
  split
  · obtain ⟨c,d,e,o,h⟩:=enter1_frame P { s with K:=unionI s.K [((x.a:Int),(x.b:Int))] } s.now x.sr (unionI s.K [((x.a:Int),(x.b:Int))])
    exact ⟨c,d,e,o,h⟩
  · exact ⟨_,_,_,_,rfl⟩
theorem dlv1_eq (P:Par) (s:Ss) (x:Sg):dlv1 P s x=dlvB P (dlvA P s x):=by
  obtain ⟨c,d,e,o,h⟩:=dlvA_frame P s x
  have hK:(dlvA P s x).K=unionI s.K [((x.a:Int),(x.b:Int))]:=by rw [h]
  have e1:dlv1 P s x=(if (dlvA P s x).rcvd=false∧unionI s.K [((x.a:Int),(x.b:Int))]=[((0:Int),(P.d.length:Int))] then { dlvA P s x with rcvd:=true,arr:=(dlvA P s x).now } else dlvA P s x):=rfl
  rw [e1];unfold dlvB
  by_cases hc:(dlvA P s x).rcvd=false∧unionI s.K [((x.a:Int),(x.b:Int))]=[((0:Int),(P.d.length:Int))]
  · rw [if_pos hc,if_pos (by rw [hK]; exact hc)]
  · rw [if_neg hc,if_neg (by rw [hK]; exact hc)]
theorem dlvB_frame (P:Par) (s:Ss):∃ r a,dlvB P s={ s with rcvd:=r,arr:=a }:=by
  unfold dlvB
  split
  · exact ⟨_,_,rfl⟩
  · exact ⟨_,_,rfl⟩
theorem dlv1_dat (P:Par) (s:Ss) (x:Sg):(dlv1 P s x).dat=s.dat:=by
  obtain ⟨c,d,e,o,h⟩:=dlvA_frame P s x
  obtain ⟨r,a,h2⟩:=dlvB_frame P (dlvA P s x)
  rw [dlv1_eq,h2,h]
theorem dlvM_stop {P:Par} {s:Ss} (n:Nat) (h:∀ f l,s.dat.fr=f::l→f.arr≠s.now):dlvM P n s=s:=by
  cases n with
  | zero=>rfl
  | succ n =>
    unfold dlvM
    split
    · rename_i t num x l e
      exact if_neg (h _ _ e)
    · rfl
theorem dlvM_go {P:Par} {s:Ss} {t num:Int} {x:Sg} {l:List Frm} (e:s.dat.fr=⟨t,num,.dat x⟩::l) (ht:t=s.now) :
    dlvM P s.dat.fr.length s=dlvM P (dlv1 P { s with dat:={ s.dat with fr:=l } } x).dat.fr.length (dlv1 P { s with dat:={ s.dat with fr:=l } } x):=by
  rw [dlv1_dat]
  conv=>lhs; rw [e]
  show dlvM P (l.length+1) s=_
  conv=>lhs; unfold dlvM
  rw [e];exact if_pos ht
theorem lsn1_rep (P:Par) (s:Ss) (sr:Int) (C:Iv):(lsn1 P s sr C).rep=s.rep:=by
  unfold lsn1
  split
  · rfl
  · simp only
    split <;> rfl
theorem lsnM_stop {P:Par} {s:Ss} (n:Nat) (h:∀ f l,s.rep.fr=f::l→f.arr≠s.now):lsnM P n s=s:=by
  cases n with
  | zero=>rfl
  | succ n =>
    unfold lsnM
    split
    · rename_i t num sr C l e
      exact if_neg (h _ _ e)
    · rfl
theorem lsnM_go {P:Par} {s:Ss} {t num sr:Int} {C:Iv} {l:List Frm} (e:s.rep.fr=⟨t,num,.rep sr C⟩::l) (ht:t=s.now) :
    lsnM P s.rep.fr.length s=lsnM P (lsn1 P { s with rep:={ s.rep with fr:=l } } sr C).rep.fr.length (lsn1 P { s with rep:={ s.rep with fr:=l } } sr C):=by
  rw [lsn1_rep]
  conv=>lhs; rw [e]
  show lsnM P (l.length+1) s=_
  conv=>lhs; unfold lsnM
  rw [e];exact if_pos ht
theorem dlvS_ok {P:Par} {t0:Int} (hP:okP P t0) {s:Ss} {lr lw lt:Int} {f:Frm} {l:List Frm} (h:SI P t0 s s.now lr lw lt) (hrc:rcOK P s) (ht:0≤s.now) (hl:lr≤s.now+P.c.g) (e:s.dat.fr=f::l) (ha:f.arr=s.now) :
    ∃ num x,f=⟨s.now,num,.dat x⟩∧okG P.d.length x∧s.now≤1099511627776∧SI P t0 { s with dat:={ s.dat with fr:=l } } s.now lr lw lt∧SI P t0 (dlv1 P { s with dat:={ s.dat with fr:=l } } x) s.now lr lw lt∧rcOK P (dlv1 P { s with dat:={ s.dat with fr:=l } } x)∧(dlv1 P { s with dat:={ s.dat with fr:=l } } x).now=s.now:=by
  have hfr:=h.dat.fr f (by rw [e]; simp)
  obtain ⟨a,num,g⟩:=f
  dsimp only at ha
  subst ha
  cases g with
  | rep sr C=>exact absurd hfr.2.2.2.2.1 (by simp)
  | dat x =>
    have hxo:okG P.d.length x:=hfr.2.2.2.2.2
    have hb:s.now≤1099511627776:=by have:=hfr.2.1; have:=(chkCt_rg hP.hc).2.2; have:=hP.h2; dsimp only at *; omega
    have hS:SI P t0 { s with dat:={ s.dat with fr:=l } } s.now lr lw lt:=⟨h.dat.tail e,h.rep,h.wt,h.ws,h.du,h.sn,h.k,h.o0,h.o1,h.en,h.kn⟩
    obtain ⟨j1,j2,j3,_⟩:=dlv1_ok hP hS hrc rfl hxo ⟨ht,hb⟩ hl
    exact ⟨num,x,rfl,hxo,hb,hS,j1,j2,j3⟩
theorem lsnS_ok {P:Par} {t0:Int} (hP:okP P t0) {s:Ss} {ld lt:Int} {f:Frm} {l:List Frm} (h:SI P t0 s ld s.now (s.now+1) lt) (hlt:lt≤s.now+1) (e:s.rep.fr=f::l) (ha:f.arr=s.now) :
    ∃ num sr C,f=⟨s.now,num,.rep sr C⟩∧InI P.d.length C∧subI C s.K∧(1≤sr∧sr≤1099511627776)∧SI P t0 { s with rep:={ s.rep with fr:=l } } ld s.now (s.now+1) lt∧SI P t0 (lsn1 P { s with rep:={ s.rep with fr:=l } } sr C) ld s.now (s.now+1) lt∧(lsn1 P { s with rep:={ s.rep with fr:=l } } sr C).now=s.now:=by
  have hfr:=h.rep.fr f (by rw [e]; simp)
  obtain ⟨a,num,g⟩:=f
  dsimp only at ha
  subst ha
  cases g with
  | dat x=>exact absurd hfr.2.2.2.2.1 (by simp)
  | rep sr C =>
    obtain ⟨_,hC,hCs,h1,h2⟩:=hfr.2.2.2.2
    have hS:SI P t0 { s with rep:={ s.rep with fr:=l } } ld s.now (s.now+1) lt:=⟨h.dat,h.rep.tail e,h.wt,h.ws,h.du,h.sn,h.k,h.o0,h.o1,h.en,h.kn⟩
    obtain ⟨j1,j2,_⟩:=lsn1_ok hP (sr:=sr) hS rfl hC hCs hlt
    exact ⟨num,sr,C,rfl,hC,hCs,⟨h1,h2⟩,hS,j1,j2⟩
theorem wait_nil {P:Par} {t0:Int} {s:Ss} {ld lr lt:Int} (h:SI P t0 s ld lr (s.now+1) lt) (hb:s.snd.busy≤s.now):s.wait=[]:=by
  cases e:s.wait with
  | nil=>rfl
  | cons x w =>
    have:=h.wt x (by rw [e]; simp)
    omega
theorem exp_nil {P:Par} {t0:Int} (hP:okP P t0) {s:Ss} {ld lr lt:Int} (h:SI P t0 s ld lr (s.now+1) lt) (hw:waitsM s=true) (hd:s.snd.due=s.now):s.wait=[]:=by
  have hcr:=chkCt_rg hP.hc
  have hst:s.snd.st=1:=by
    unfold waitsM at hw;simp only [Bool.and_eq_true,decide_eq_true_eq] at hw;exact hw.1
  refine wait_nil h ?_
  rcases h.sn.st with ⟨_,_,g⟩|⟨g,_⟩|⟨g,_⟩
  · omega
  · omega
  · omega
/-! ### how much waits -/
theorem sendM_len (P:Par) (s:Sd) (t sr:Int) (G:List Sg):(sendM P s t sr G).2.length≤G.length:=by
  unfold sendM
  split
  · exact Nat.zero_le _
  · rw [timed_len]; exact Nat.le_refl _
theorem batM_len {P:Par} {t0:Int} (hP:okP P t0) {s:Sd} (hk:InI P.d.length s.K):(batM P s).length≤990:=by
  have hn:=hP.n1
  have hn2:=hP.n2
  have hM:=(missI_ok hk (by omega)).1
  have:=pcsAll_len hM (by omega)
  unfold batM;rw [bat_len];omega
theorem hearM_len {P:Par} {t0:Int} (hP:okP P t0) {s:Sd} {t sr:Int} {C:Iv} (hk:InI P.d.length s.K) (hC:InI P.d.length C):(hearM P s t sr C).2.length≤990:=by
  unfold hearM
  split
  · exact Nat.zero_le _
  split
  · exact Nat.zero_le _
  · exact Nat.le_trans (sendM_len _ _ _ _ _) (batM_len hP (s:={ s with K:=unionI s.K C }) (unionI_in hk hC).1)
theorem lsn1_wl {P:Par} {t0:Int} (hP:okP P t0) {s:Ss} {ld lr lt sr n:Int} {C:Iv} (h:SI P t0 s ld lr (n+1) lt) (hnn:s.now=n) (hC:InI P.d.length C) (hw:s.wait.length≤1000):(lsn1 P s sr C).wait.length≤1000:=by
  subst hnn;unfold lsn1
  split
  · exact hw
  rename_i hb
  have hn:=wait_nil h (by omega)
  have hl:=hearM_len hP (t:=s.now) (sr:=sr) h.sn.k hC
  simp only
  split
  · show (s.wait ++ _).length≤_
    rw [hn,List.nil_append];omega
  · show (s.wait ++ _).length≤_
    rw [hn,List.nil_append];omega
theorem lsnM_wl {P:Par} {t0:Int} (hP:okP P t0) {ld lt n:Int} (hlt:lt≤n+1):∀ (f:Nat) {s:Ss},SI P t0 s ld n (n+1) lt→s.now=n→s.wait.length≤1000→(lsnM P f s).wait.length≤1000
  | 0,s,_,_,hw=>hw
  | f+1,s,h,hn,hw=>by
    unfold lsnM
    split
    · rename_i t num sr C l e
      have hfr:=h.rep.fr ⟨t,num,.rep sr C⟩ (by rw [e]; simp)
      obtain ⟨_,hC,hCs,_⟩:=hfr.2.2.2.2
      split
      · have hS:SI P t0 { s with rep:={ s.rep with fr:=l } } ld n (n+1) lt:=⟨h.dat,h.rep.tail e,h.wt,h.ws,h.du,h.sn,h.k,h.o0,h.o1,h.en,h.kn⟩
        obtain ⟨j1,j2,_⟩:=lsn1_ok hP (sr:=sr) hS hn hC hCs hlt
        exact lsnM_wl hP hlt f j1 j2 (lsn1_wl hP hS hn hC hw)
      · exact hw
    · exact hw
theorem expM_wl {P:Par} {t0:Int} (hP:okP P t0) {s:Ss} {ld lr lt:Int} (h:SI P t0 s ld lr (s.now+1) lt) (hw:s.wait.length≤1000):(expM P s).wait.length≤1000:=by
  unfold expM
  split
  · exact hw
  rename_i hc
  have hwt:waitsM s=true:=by
    cases hw:waitsM s with
    | true=>rfl
    | false=>exact absurd (.inl hw) hc
  have hdue:s.snd.due=s.now:=Decidable.byContradiction (fun h=>hc (.inr h))
  have hn:=exp_nil hP h hwt hdue
  simp only;rw [hn,List.nil_append]
  have h1:=batM_len hP (s:=s.snd) h.sn.k
  have h2:=sendM_len P s.snd s.now (s.snd.sr+1) ((batM P s.snd).drop ((batM P s.snd).length-1))
  rw [List.length_drop] at h2
  show (waitM P s.snd s.now).2.length≤1000
  unfold waitM;omega
/-! ### frames that were disturbed -/
theorem dlv1_dis (P:Par) (s:Ss) (x:Sg):s.dis≤(dlv1 P s x).dis∧(dlv1 P s x).dis≤s.dis+1:=by
  have hA:s.dis≤(dlvA P s x).dis∧(dlvA P s x).dis≤s.dis+1:=by
    unfold dlvA
    split
    · exact enter1_dis P { s with K:=unionI s.K [((x.a:Int),(x.b:Int))] } s.now x.sr _
    · show s.dis≤s.dis∧s.dis≤_
      omega
  obtain ⟨r,a,h2⟩:=dlvB_frame P (dlvA P s x)
  rw [dlv1_eq,h2];exact hA
theorem dlvM_dis (P:Par):∀ (f:Nat) (s:Ss),s.dis≤(dlvM P f s).dis∧(dlvM P f s).dis≤s.dis+f
  | 0,s=>⟨Int.le_refl _,by show s.dis≤_; omega⟩
  | f+1,s=>by
    unfold dlvM
    split
    · split
      · rename_i t num x l e _
        have h1:=dlv1_dis P { s with dat:={ s.dat with fr:=l } } x
        have h2:=dlvM_dis P f (dlv1 P { s with dat:={ s.dat with fr:=l } } x)
        have h3:({ s with dat:={ s.dat with fr:=l } }:Ss).dis=s.dis:=rfl
        rw [h3] at h1;omega
      · omega
    · omega
theorem lsn1_dis (P:Par) (s:Ss) (sr:Int) (C:Iv):(lsn1 P s sr C).dis=s.dis:=by
  unfold lsn1
  split
  · rfl
  · simp only
    split <;> rfl
theorem lsnM_dis (P:Par):∀ (f:Nat) (s:Ss),(lsnM P f s).dis=s.dis
  | 0,s=>rfl
  | f+1,s=>by
    unfold lsnM
    split
    · split
      · rw [lsnM_dis P f,lsn1_dis]
      · rfl
    · rfl
theorem expM_dis (P:Par) (s:Ss):(expM P s).dis=s.dis:=by
  unfold expM
  split
  · rfl
  · rfl
/-! ### what was sent first is sent or waits -/
structure Cv (P:Par) (s:Ss):Prop where
  en:s.ent=s.out0.length+s.out1.length
  cn:s.out1.length+s.dat.fr.length≤2*s.out0.length
  cv:60<s.out0.length∨∀ g∈bat 1 (pcsAll (missI P.d.length [])),(∃ t,(t,g)∈s.out0)∨∃ t,(t,g)∈s.wait
theorem insFs_len (t num:Int) (g:Msg):∀ (ds:List Int) (l:List Frm),(insFs t num g ds l).length=l.length+ds.length
  | [],l=>rfl
  | d::ds,l=>by
    show (insFs t num g ds _).length=_
    rw [insFs_len,insF_len,List.length_cons];omega
theorem enter0_cv {P:Par} {s:Ss} {t:Int} {x:Sg} {w:List (Int × Sg)} (h:Cv P { s with wait:=(t,x)::w }):Cv P { enter0 P s s.now x with wait:=w }:=by
  obtain ⟨h1,h2,h3⟩:=h
  dsimp only at h1 h2 h3
  have hdl:=delM_len P s s.now
  by_cases hf:10000≤s.ent
  · rw [enter0_full hf]
    exact ⟨h1,h2,.inl (by dsimp only; omega)⟩
  by_cases hc:s.dat.fr.length+(delM P s s.now).1.length≤10000
  rotate_left
  · rw [enter0_none hf (by omega)]
    exact ⟨h1,h2,.inl (by dsimp only; omega)⟩
  rw [enter0_some hf hc];refine ⟨?_,?_,?_⟩
  · dsimp only
    rw [List.length_append,List.length_singleton];omega
  · dsimp only
    rw [List.length_append,List.length_singleton,insFs_len];omega
  · dsimp only
    rcases h3 with h3|h3
    · exact .inl (by rw [List.length_append]; omega)
    · refine .inr (fun g hg=>?_)
      rcases h3 g hg with ⟨t',k⟩|⟨t',k⟩
      · exact .inl ⟨t',List.mem_append.2 (.inl k)⟩
      · rcases List.mem_cons.1 k with k|k
        · exact .inl ⟨s.now,List.mem_append.2 (.inr (by simp only [Prod.mk.injEq] at k; rw [k.2]; exact List.mem_singleton.2 rfl))⟩
        · exact .inr ⟨t',k⟩
theorem trM_cv {P:Par}:∀ (w:List (Int × Sg)) {s:Ss},Cv P { s with wait:=w }→Cv P (trM P w s)
  | [],s,h=>h
  | (t,x)::w,s,h=>by
    unfold trM
    split
    · exact trM_cv w (enter0_cv h)
    · exact h
theorem dlv1_cv {P:Par} {s:Ss} {x:Sg} (en:s.ent=s.out0.length+s.out1.length) (cn:s.out1.length+s.dat.fr.length+1≤2*s.out0.length)
    (cv:60<s.out0.length∨∀ g∈bat 1 (pcsAll (missI P.d.length [])),(∃ t,(t,g)∈s.out0)∨∃ t,(t,g)∈s.wait):Cv P (dlv1 P s x):=by
  have hA:Cv P (dlvA P s x):=by
    unfold dlvA
    split
    · unfold enter1
      split
      · exact ⟨en,by dsimp only; omega,cv⟩
      · cases chSend P.c.g ({ s with K:=unionI s.K [((x.a:Int),(x.b:Int))] }:Ss).rep s.now (.rep x.sr (unionI s.K [((x.a:Int),(x.b:Int))])) (delM P { s with K:=unionI s.K [((x.a:Int),(x.b:Int))] } s.now).1 with
        | none=>exact ⟨en,by dsimp only; omega,cv⟩
        | some c =>
          refine ⟨?_,?_,cv⟩
          · dsimp only
            rw [List.length_append,List.length_singleton];omega
          · dsimp only
            rw [List.length_append,List.length_singleton];omega
    · exact ⟨en,by dsimp only; omega,cv⟩
  obtain ⟨r,a,h2⟩:=dlvB_frame P (dlvA P s x)
  rw [dlv1_eq,h2];exact ⟨hA.en,hA.cn,hA.cv⟩
theorem dlvM_cv {P:Par}:∀ (f:Nat) {s:Ss},Cv P s→Cv P (dlvM P f s)
  | 0,s,h=>h
  | f+1,s,h=>by
    unfold dlvM
    split
    · split
      · rename_i t num x l e _
        have:=h.cn
        rw [e,List.length_cons] at this
        exact dlvM_cv f (dlv1_cv h.en (by dsimp only; omega) h.cv)
      · exact h
    · exact h
theorem Cv.more {P:Par} {s:Ss} (h:Cv P s) {w:List (Int × Sg)}:60<s.out0.length∨∀ g∈bat 1 (pcsAll (missI P.d.length [])),(∃ t,(t,g)∈s.out0)∨∃ t,(t,g)∈s.wait ++ w:=by
  rcases h.cv with h|h
  · exact .inl h
  · refine .inr (fun g hg=>?_)
    rcases h g hg with h|⟨t,h⟩
    · exact .inl h
    · exact .inr ⟨t,List.mem_append.2 (.inl h)⟩
theorem lsn1_cv {P:Par} {s:Ss} {sr:Int} {C:Iv} (h:Cv P s):Cv P (lsn1 P s sr C):=by
  unfold lsn1
  split
  · exact h
  · simp only
    split
    · exact ⟨h.en,h.cn,h.more⟩
    · exact ⟨h.en,h.cn,h.more⟩
theorem lsnM_cv {P:Par}:∀ (f:Nat) {s:Ss},Cv P s→Cv P (lsnM P f s)
  | 0,s,h=>h
  | f+1,s,h=>by
    unfold lsnM
    split
    · split
      · exact lsnM_cv f (lsn1_cv ⟨h.en,h.cn,h.cv⟩)
      · exact h
    · exact h
theorem expM_cv {P:Par} {s:Ss} (h:Cv P s):Cv P (expM P s):=by
  unfold expM
  split
  · exact h
  · exact ⟨h.en,h.cn,h.more⟩
theorem clrM_cv {P:Par} {s:Ss} (h:Cv P s):Cv P (clrM s):=by
  unfold clrM
  split
  · rename_i hf
    have h1:=h.en
    have h2:=h.cn
    exact ⟨h1,h2,.inl (by dsimp only; omega)⟩
  · exact h
/-! ### rounds -/
structure RI (P:Par) (t0:Int) (s:Ss) (u:Int):Prop where
  si:SI P t0 s u u u u
  rc:rcOK P s
  u0:t0<u
  u1:u≤2199023255553
  wl:s.wait.length≤1000
  ds:0≤s.dis∧s.dis≤20000*u
  cv:Cv P s
theorem RI.mid {P:Par} {t0:Int} (hP:okP P t0) {s s0 s1 s2 s3 s4:Ss} {u t:Int} (h:RI P t0 s u) (e:nextM (clrM s)=some t) (e0:s0={ clrM s with now:=t }) (e1:s1=trM P s0.wait s0) (e2:s2=dlvM P s1.dat.fr.length s1) (e3:s3=lsnM P s2.rep.fr.length s2) (e4:s4=expM P s3) :
    (u≤t∧t≤2199023255552∧t0<t∧s4=roundM P (clrM s) t∧RI P t0 s4 (t+1)) ∧
    (s0.now=t∧SI P t0 s0 t t t t∧0≤s0.dis∧s0.dis+s0.wait.length≤1152921504606846976) ∧
    (s1.now=t∧SI P t0 s1 t t (t+1) t∧rcOK P s1∧0≤s1.dis∧s1.dis+s1.dat.fr.length≤1152921504606846976) ∧
    (s2.now=t∧SI P t0 s2 (t+1) t (t+1) t) ∧
    (s3.now=t∧SI P t0 s3 (t+1) (t+1) (t+1) t):=by
  have hcr:=chkCt_rg hP.hc
  have hcs:=chkCt_se hP.hc
  have h0:=hP.h0
  obtain ⟨c1,c2,c3,c4,c5⟩:=clrM_ok h.si
  obtain ⟨b1,b2,b3⟩:=next_ok hP c1 e
  have u0:=h.u0
  have hwl:(clrM s).wait.length≤1000:=by
    unfold clrM
    split
    · exact Nat.zero_le _
    · exact h.wl
  have hds:(clrM s).dis=s.dis:=by
    unfold clrM
    split <;> rfl
  have hcv:=clrM_cv h.cv
  have hd:=h.ds
  have hu:=h.u1
  have hr0:rcOK P (clrM s):=by unfold rcOK; rw [c3,c4]; exact h.rc
  have f0:SI P t0 s0 t t t t:=by rw [e0]; exact ⟨b3.dat,b3.rep,b3.wt,b3.ws,b3.du,b3.sn,b3.k,b3.o0,b3.o1,b3.en,b3.kn⟩
  have n0:s0.now=t:=by rw [e0]
  have w0:s0.wait.length≤1000:=by rw [e0]; exact hwl
  have d0:s0.dis=s.dis:=by rw [e0]; exact hds
  have r0:rcOK P s0:=by rw [e0]; exact hr0
  have v0:Cv P s0:=by rw [e0]; exact ⟨hcv.en,hcv.cn,hcv.cv⟩
  obtain ⟨a1,a2,a3,a4,a5,a6⟩:=trM_ok hP (show t0<t by omega) (ld:=t) (lr:=t) (lt:=t) (by omega) s0.wait (s:=s0) n0 ⟨f0.dat,f0.rep,f0.wt,f0.ws,f0.du,f0.sn,f0.k,f0.o0,f0.o1,f0.en,f0.kn⟩
  have d1:=trM_dis P s0.wait s0
  have w1:=trM_wlen P s0.wait s0
  have v1:Cv P (trM P s0.wait s0):=trM_cv s0.wait ⟨v0.en,v0.cn,v0.cv⟩
  rw [← e1] at a1 a2 a3 a4 a5 a6 d1 w1 v1
  have r1:rcOK P s1:=by unfold rcOK; rw [a4,a6]; exact r0
  have l1:=a1.dat.len
  obtain ⟨g1,g2,g3,g4,g5,g6⟩:=dlvM_ok hP (by omega) (by omega) s1.dat.fr.length (Nat.le_refl _) a1 r1 a2
  have d2:=dlvM_dis P s1.dat.fr.length s1
  have v2:=dlvM_cv s1.dat.fr.length v1
  rw [← e2] at g1 g2 g3 g4 g5 g6 d2 v2
  obtain ⟨k1,k2,k3,k4,k5⟩:=lsnM_ok hP (by omega) s2.rep.fr.length (Nat.le_refl _) g1 g3
  have d3:=lsnM_dis P s2.rep.fr.length s2
  have w3:=lsnM_wl hP (by omega) s2.rep.fr.length g1 g3 (by rw [g5]; omega)
  have v3:=lsnM_cv s2.rep.fr.length v2
  rw [← e3] at k1 k2 k3 k4 k5 d3 w3 v3
  obtain ⟨m1,m2,m3,m4,m5⟩:=expM_ok hP k1 k2
  have d4:=expM_dis P s3
  have w4:=expM_wl hP (s:=s3) (by rw [k2]; exact k1) w3
  have v4:=expM_cv v3
  rw [← e4] at m1 m2 m3 m4 m5 d4 w4 v4
  have r4:rcOK P s4:=by unfold rcOK; rw [m3,m4,k3,k4]; exact g2
  refine ⟨⟨b1,b2,by omega,?_,m1,r4,by omega,by omega,w4,⟨by omega,by omega⟩,v4⟩,⟨n0,f0,by omega,by omega⟩,⟨a2,a1,r1,by omega,by omega⟩,⟨g3,g1⟩,k2,k1⟩
  rw [e4,e3,e2,e1,e0]
  rfl
theorem RI.begin {P:Par} {t0:Int} (hP:okP P t0) (hE:endG P.c.r t0 (bat 1 (pcsAll (missI P.d.length [])))≤P.e):RI P t0 (beginM P t0) (t0+1):=by
  have hcr:=chkCt_rg hP.hc
  have hcs:=chkCt_se hP.hc
  have h0:=hP.h0
  have h1:=hP.h1
  have h2:=hP.h2
  obtain ⟨a,b⟩:=begin_ok hP hE
  refine ⟨a,b,by omega,by omega,?_,⟨Int.le_refl _,by show (0:Int)≤_; omega⟩,⟨rfl,Nat.le_refl _,.inr (fun g hg=>.inr ?_)⟩⟩
  · show (timed _ _ _).length≤1000
    rw [timed_len]
    exact Nat.le_trans (batM_len hP (s:=⟨0,0,0,0,[]⟩) (InI.nil _)) (by omega)
  · obtain ⟨i,hi⟩:=List.mem_iff_getElem?.1 hg
    have:=timed_get P.c.r _ t0 i g hi
    exact ⟨_,List.mem_iff_getElem?.2 ⟨i,this⟩⟩
end Go.Step
namespace Go.Proofs.YtahbngakckbenaaGreatDoor
open Go.Eng Go.Step
set_option maxRecDepth 100000
set_option maxHeartbeats 64000000
def zSeg:List Value:=[int 0,int 0,int 0,int 0,int 0,.bool false,str [],.slice none 0 0]
def segO (d:List UInt8):Option Sg→List Value
 | none=>zSeg
 | some x=>encG 0 d x
theorem trGet0_spec {P:Par} {t0:Int} {s:Ss} {pp pq:Option Addr} {cp cq:Nat} {M:Mm} {σ:S6} {lr lw lt:Int} (hP:okP P t0) (hS:SI P t0 s s.now lr lw lt) (hrc:rcOK P s) (hn:0≤s.now) (hl:lr≤s.now+P.c.g) (hM:MOK P s M σ) (bs:Nat) :
  Eng.Spec Tryz.prog (fv 188) [.pointer (some ⟨bs,0,none⟩),.pointer (some ⟨bs,0,none⟩)] [] [sesB pp pq cp cq P s M bs,σ.a] (fun r H'=>((∀ n,dlvM P n s=s)∧r=.tuple #[.agg zSeg.toArray,.bool false]∧H'=[sesB pp pq cp cq P s M bs,σ.a]) ∨
   (∃ x l M' ρ',r=.tuple #[.agg (encG 0 P.d x).toArray,.bool true]∧okG P.d.length x∧s.dat.fr.length=l.length+1∧SI P t0 { s with dat:={ s.dat with fr:=l } } s.now lr lw lt∧SI P t0 (dlv1 P { s with dat:={ s.dat with fr:=l } } x) s.now lr lw lt∧rcOK P (dlv1 P { s with dat:={ s.dat with fr:=l } } x)∧(dlv1 P { s with dat:={ s.dat with fr:=l } } x).now=s.now∧dlvM P s.dat.fr.length s=dlvM P (dlv1 P { s with dat:={ s.dat with fr:=l } } x).dat.fr.length (dlv1 P { s with dat:={ s.dat with fr:=l } } x)∧s.now≤1099511627776∧MOK P { s with dat:={ s.dat with fr:=l } } M' { σ with a:=ρ' }∧H'=[sesB pp pq cp cq P { s with dat:={ s.dat with fr:=l } } M' bs,ρ'])):=by
 have hcr:=chkCt_rg hP.hc
 have h2:=hP.h2
 have hen:=hS.en
 have hl0:=hS.dat.lst
 have hl1:=hS.rep.lst
 have hC:ChOK s.now (P.e+2*P.c.g) P.d.length s.K true ⟨M.F.map (·.1),s.dat.sent,s.dat.lost⟩:=by rw [hM.dm]; exact hS.dat
 refine (trTake0_spec (rng:=P.c.g) (sent:=s.dat.sent) (lost:=s.dat.lost) (now:=s.now) (y4:=int P.c.g) (y5:=.slice M.p1 M.G.length M.c1) (y6:=int s.rep.sent) (y7:=int s.rep.lost) (y8:=.slice pp P.picks.length cp) (y9:=int P.limit) (y10:=.slice pq P.dark.length cq) (y11:=int s.ent) (y12:=int s.dis) (y13:=.slice M.p2 s.out0.length M.c2) (y14:=.slice M.p3 M.O.length M.c3) (y16:=int P.c.f) (y17:=int P.c.t) (y18:=int P.c.s) (y19:=int P.c.e) (y20:=int P.c.r) (y21:=int P.c.g) (y22:=int P.c.l) (y23:=int 0) (y24:=str P.d) (y25:=int P.e) (y26:=int s.snd.busy) (y27:=int s.snd.sr) (y28:=.slice M.p4 s.snd.K.length M.c4) (y29:=int s.snd.due) (y30:=int s.snd.st) (y31:=int 0) (y32:=int (totR P.d s.K)) (y33:=.slice M.p5 s.K.length M.c5) (y34:=str (datR P.d s.K)) (y35:=.slice M.p6 s.wait.length M.c6) (y36:=.bool s.rcvd) (y37:=int s.arr) (y38:=.bool s.kn) (y39:=int s.knAt) hM.d (fun f hf=>by rw [hM.d1 f hf]; rfl) hC hn (by omega) hcr.2.1 (by omega) bs).mono ?_
 rintro r H' (⟨ha,hb,hc⟩|⟨f,l,p',c',σ',e1,e2,e3,hO,e5⟩)
 ·refine .inl ⟨fun n=>dlvM_stop n (fun g l e=>?_),hb,hc⟩
  rw [← hM.dm] at e
  cases hF:M.F with
  | nil=>rw [hF] at e; cases e
  | cons x l' =>
   rw [hF] at e
   obtain ⟨rfl,_⟩:=List.cons.inj e
   exact ha x l' hF
 ·have ed:s.dat.fr=f.1::l.map (·.1):=by rw [← hM.dm,e1]; rfl
  obtain ⟨num,x,ef,hxo,hb,g1,g2,g3,g4⟩:=dlvS_ok hP hS hrc hn hl ed e2
  rw [ef] at e3 ed
  refine .inr ⟨x,l.map (·.1),{ M with F:=l,p0:=p',c0:=c' },σ',e3,hxo,by rw [ed]; rfl,g1,g2,g3,g4,dlvM_go ed rfl,hb,⟨hO,rfl,fun f hf=>hM.d1 f (by rw [e1]; exact List.mem_cons_of_mem _ hf),hM.r,hM.rm,hM.r1,hM.o0,hM.o1,hM.om,hM.o2,hM.w,hM.a,hM.k⟩,e5⟩
theorem trGet1_spec {P:Par} {t0:Int} {s:Ss} {pp pq:Option Addr} {cp cq:Nat} {M:Mm} {σ:S6} {ld lt:Int} (hP:okP P t0) (hS:SI P t0 s ld s.now (s.now+1) lt) (hn:0≤s.now) (hlt:lt≤s.now+1) (hM:MOK P s M σ) (bs:Nat) :
  Eng.Spec Tryz.prog (fv 188) [.pointer (some ⟨bs,0,none⟩),.pointer (some ⟨bs,4,none⟩)] [] [sesB pp pq cp cq P s M bs,σ.b] (fun r H'=>((∀ n,lsnM P n s=s)∧r=.tuple #[.agg zSeg.toArray,.bool false]∧H'=[sesB pp pq cp cq P s M bs,σ.b]) ∨
   (∃ sr C p c l M' ρ',r=.tuple #[.agg (encRp 0 sr P.d.length (.slice p C.length c)).toArray,.bool true]∧SpAt σ.f (.slice p C.length c) C∧InI P.d.length C∧subI C s.K∧(1≤sr∧sr≤1099511627776)∧s.rep.fr.length=l.length+1∧SI P t0 { s with rep:={ s.rep with fr:=l } } ld s.now (s.now+1) lt∧SI P t0 (lsn1 P { s with rep:={ s.rep with fr:=l } } sr C) ld s.now (s.now+1) lt∧(lsn1 P { s with rep:={ s.rep with fr:=l } } sr C).now=s.now∧lsnM P s.rep.fr.length s=lsnM P (lsn1 P { s with rep:={ s.rep with fr:=l } } sr C).rep.fr.length (lsn1 P { s with rep:={ s.rep with fr:=l } } sr C)∧s.now≤2199023255552∧MOK P { s with rep:={ s.rep with fr:=l } } M' { σ with b:=ρ' }∧H'=[sesB pp pq cp cq P { s with rep:={ s.rep with fr:=l } } M' bs,ρ'])):=by
 have hcr:=chkCt_rg hP.hc
 have h2:=hP.h2
 have hen:=hS.en
 have hl0:=hS.dat.lst
 have hl1:=hS.rep.lst
 have hC:ChOK s.now 2199023255552 P.d.length s.K false ⟨M.G.map (·.1),s.rep.sent,s.rep.lost⟩:=by rw [hM.rm]; exact hS.rep
 refine (trTake1_spec (rng:=P.c.g) (sent:=s.rep.sent) (lost:=s.rep.lost) (now:=s.now) (y0:=int P.c.g) (y1:=.slice M.p0 M.F.length M.c0) (y2:=int s.dat.sent) (y3:=int s.dat.lost) (y8:=.slice pp P.picks.length cp) (y9:=int P.limit) (y10:=.slice pq P.dark.length cq) (y11:=int s.ent) (y12:=int s.dis) (y13:=.slice M.p2 s.out0.length M.c2) (y14:=.slice M.p3 M.O.length M.c3) (y16:=int P.c.f) (y17:=int P.c.t) (y18:=int P.c.s) (y19:=int P.c.e) (y20:=int P.c.r) (y21:=int P.c.g) (y22:=int P.c.l) (y23:=int 0) (y24:=str P.d) (y25:=int P.e) (y26:=int s.snd.busy) (y27:=int s.snd.sr) (y28:=.slice M.p4 s.snd.K.length M.c4) (y29:=int s.snd.due) (y30:=int s.snd.st) (y31:=int 0) (y32:=int (totR P.d s.K)) (y33:=.slice M.p5 s.K.length M.c5) (y34:=str (datR P.d s.K)) (y35:=.slice M.p6 s.wait.length M.c6) (y36:=.bool s.rcvd) (y37:=int s.arr) (y38:=.bool s.kn) (y39:=int s.knAt) hM.r (fun f hf=>by obtain ⟨_,_,_,_,_,e,_⟩:=hM.r1 f hf; rw [e]; rfl) hC hn (by omega) hcr.2.1 (by omega) bs).mono ?_
 rintro r H' (⟨ha,hb,hc⟩|⟨f,l,p',c',σ',e1,e2,e3,hO,e5⟩)
 ·refine .inl ⟨fun n=>lsnM_stop n (fun g l e=>?_),hb,hc⟩
  rw [← hM.rm] at e
  cases hG:M.G with
  | nil=>rw [hG] at e; cases e
  | cons x l' =>
   rw [hG] at e
   obtain ⟨rfl,_⟩:=List.cons.inj e
   exact ha x l' hG
 ·have ed:s.rep.fr=f.1::l.map (·.1):=by rw [← hM.rm,e1]; rfl
  obtain ⟨num,sr,C,ef,hC1,hC2,hsr,g1,g2,g4⟩:=lsnS_ok hP hS hlt ed e2
  obtain ⟨sr',C',p,c,k1,k2,k3⟩:=hM.r1 f (by rw [e1]; simp)
  rw [ef] at e3 ed k1;simp only [Msg.rep.injEq] at k1
  obtain ⟨rfl,rfl⟩:=k1
  rw [k2] at e3
  have hb:s.now≤2199023255552:=by
   have:=(hS.rep.fr f.1 (by rw [ed,ef]; simp)).2.1
   rw [ef] at this;exact this
  refine .inr ⟨sr,C,p,c,l.map (·.1),{ M with G:=l,p1:=p',c1:=c' },σ',e3,k3,hC1,hC2,hsr,by rw [ed]; rfl,g1,g2,g4,lsnM_go ed rfl,hb,⟨hM.d,hM.dm,hM.d1,hO,rfl,fun f hf=>hM.r1 f (by rw [e1]; exact List.mem_cons_of_mem _ hf),hM.o0,hM.o1,hM.om,hM.o2,hM.w,hM.a,hM.k⟩,e5⟩
theorem rcvMerged_spec {ρ:PH} {se tot:Int} {d dat:List UInt8} {K:Iv} {p:Option Addr} {c:Nat} {x:Sg} {ck:Bool} (hv:SpAt ρ (.slice p K.length c) K) (hK:InI d.length K) (hn:d.length≤990) (hx:okG d.length x) :
  Makes Tryz.prog (fv 41) [.agg #[int se,int tot,.slice p K.length c,str dat],.agg #[int 1,int se,int x.sr,int (x.a:Int),int (d.length:Int),.bool ck,str (cutD d x.a x.b),.slice none 0 0]] [ρ] (fun r σ=>∃ p c,r=.tuple #[.slice p (unionI K [((x.a:Int),(x.b:Int))]).length c,int 0]∧OwnS 49 2 (.slice p (unionI K [((x.a:Int),(x.b:Int))]).length c) (unionI K [((x.a:Int),(x.b:Int))]).length ((unionI K [((x.a:Int),(x.b:Int))]).flatMap encS) σ):=by
 obtain ⟨h1,h2,h3,h4,h5⟩:=hx
 have hl:=cutD_len (Nat.le_of_lt h1) h2
 have hKl:=hK.len (by omega)
 have h1':InI d.length [((x.a:Int),(x.b:Int))]:=⟨⟨by simp; omega,List.pairwise_singleton _ _⟩,fun t ht=>by rw [mem_one,decide_eq_true_iff] at ht; omega⟩
 have hU:=fun bn=>snUnion_spec ρ (sng bn (.cells #[int (x.a:Int),int (x.b:Int)] 49 (0,0))) _ (.slice (some ⟨bn,0,none⟩) 1 1) K [((x.a:Int),(x.b:Int))] hv (slE_sng (l:=[((x.a:Int),(x.b:Int))]) encS_len) (hK.chk (by omega) (by omega)) (h1'.chk (by omega) (by omega)) (by simp; omega)
 refine spec_in (cap:=[]) Tryz.func41 rfl rfl Tryz.ntmps41 rfl envZ (fun N β=>?_)
 refine Aa ?_;refine BK (BM rfl) rfl rfl rfl ?_;rintro _ _ ⟨br,rfl,rfl⟩;refine AZ (ρ:=sng br _) takeZ ?_
 have cr:=rdB br 41 [int se,int tot,.slice p K.length c,str dat]
 have cr0:=rdC cr 0
 have cr1:=rdC cr 1
 have cr2:=rdC cr 2
 have cr3:=rdC cr 3
 refine BK (BM rfl) rfl rfl rfl ?_;rintro _ _ ⟨bx,rfl,rfl⟩;refine AZ (ρ:=sng bx _) takeZ ?_
 have cx:=rdB bx 37 [int 1,int se,int x.sr,int (x.a:Int),int (d.length:Int),.bool ck,str (cutD d x.a x.b),.slice none 0 0]
 have cx0:=rdC cx 0
 have cx1:=rdC cx 1
 have cx2:=rdC cx 2
 have cx3:=rdC cx 3
 have cx4:=rdC cx 4
 have cx5:=rdC cx 5
 have cx6:=rdC cx 6
 have cx7:=rdC cx 7
 refine Aai ?_;refine Aao ?_;refine Aae ?_;refine Aae ?_;refine Aae ?_
 focus ((refine' BQ _ rfl rfl rfl _; rotate_left; (apply B4; exact rfl; exact rfl)))
 refine CA ?_;refine B5 ?_;refine BS ?_; rintro _ _ ⟨b,rfl,rfl⟩
 have eb:(x.a:Int)+((cutD d x.a x.b).length:Int)=(x.b:Int):=by omega
 rw [eb]
 skip
 revert b; intro bn
 refine B9 (hU bn) rfl rfl rdZ rfl rfl ?_;rintro _ σ ⟨p',c',rfl,hO⟩;refine Adb ?_;exact AK (res2 rfl rfl rfl) rsubZ selZ ⟨σ,⟨p',c',rfl,hO⟩,rfl⟩
theorem rcvSuits1_spec {se tot:Int} {d dat:List UInt8} {K:Iv} {p:Option Addr} {c:Nat} {x:Sg} {ck:Bool} (br bx:Nat) :
  Ans Tryz.prog (.func (.func 85) #[] #[.pointer (some ⟨bx,0,none⟩),.pointer (some ⟨br,0,none⟩)]) [] [sng bx (.cells #[int 1,int se,int x.sr,int (x.a:Int),int (d.length:Int),.bool ck,str (cutD d x.a x.b),.slice none 0 0] 37 (0,0)),sng br (.cells #[int se,int tot,.slice p K.length c,str dat] 41 (0,0))] (fun r=>r=.bool true):=by
 have bx74_3:=rdB bx 37 [int 1,int se,int x.sr,int (x.a:Int),int (d.length:Int),.bool ck,str (cutD d x.a x.b),.slice none 0 0]
 have x0:=rdC bx74_3 0
 have x1:=rdC bx74_3 1
 have bx76_3:=rdB br 41 [int se,int tot,.slice p K.length c,str dat]
 have r0:=rdC bx76_3 0
 refine spec_in (cap:=[.pointer (some ⟨bx,0,none⟩),.pointer (some ⟨br,0,none⟩)]) Tryz.func85 rfl rfl Tryz.ntmps85 rfl envZ (fun N β=>?_)
 refine Aan ?_;refine Aao ?_;refine CM ?_;refine Aap ?_;refine Aae ?_;refine CM ?_;refine Abi ?_;exact BE ⟨rfl,rfl⟩
theorem rcvSuits2_spec {se tot:Int} {d dat:List UInt8} {K:Iv} {p:Option Addr} {c:Nat} {x:Sg} {ck:Bool} (br bx:Nat) (ht:tot = -1∨tot=(d.length:Int)) :
  Ans Tryz.prog (.func (.func 86) #[] #[.pointer (some ⟨br,0,none⟩),.pointer (some ⟨bx,0,none⟩)]) [] [sng bx (.cells #[int 1,int se,int x.sr,int (x.a:Int),int (d.length:Int),.bool ck,str (cutD d x.a x.b),.slice none 0 0] 37 (0,0)),sng br (.cells #[int se,int tot,.slice p K.length c,str dat] 41 (0,0))] (fun r=>r=.bool true):=by
 have bx99_3:=rdB bx 37 [int 1,int se,int x.sr,int (x.a:Int),int (d.length:Int),.bool ck,str (cutD d x.a x.b),.slice none 0 0]
 have x4:=rdC bx99_3 4
 have bx100_3:=rdB br 41 [int se,int tot,.slice p K.length c,str dat]
 have r1:=rdC bx100_3 1
 refine spec_in (cap:=[.pointer (some ⟨br,0,none⟩),.pointer (some ⟨bx,0,none⟩)]) Tryz.func86 rfl rfl Tryz.ntmps86 rfl envZ (fun N β=>?_)
 by_cases h1:tot = -1
 ·refine AD ?_
  refine AA ?_;refine Ab4 ?_;refine CM ?_;refine Abf ?_;refine Aa0 ?_;refine Abi ?_;exact BE ⟨rfl,rfl⟩
 ·refine AD ?_
  refine AA ?_;refine Ab4 ?_;refine CI ?_;refine Aap ?_;refine Aae ?_;refine CM ?_;refine AR ?_;refine Aaa ?_;exact BE ⟨rfl,rfl⟩
theorem rcvSuits3_spec {ρ:PH} {se tot:Int} {d dat:List UInt8} {K:Iv} {p:Option Addr} {c:Nat} {x:Sg} {ck:Bool} (hv:SpAt ρ (.slice p K.length c) K) (hK:InI d.length K) (hn:d.length≤990) (hx:okG d.length x) (hd:K≠[]→dat=maskD d K) (br bx:Nat) :
  Ans Tryz.prog (.func (.func 87) #[] #[.pointer (some ⟨br,0,none⟩),.pointer (some ⟨bx,0,none⟩)]) [] [sng bx (.cells #[int 1,int se,int x.sr,int (x.a:Int),int (d.length:Int),.bool ck,str (cutD d x.a x.b),.slice none 0 0] 37 (0,0)),sng br (.cells #[int se,int tot,.slice p K.length c,str dat] 41 (0,0)),ρ] (fun r=>r=.bool true):=by
 obtain ⟨h1,h2,h3,h4,h5⟩:=hx
 have hl:=cutD_len (Nat.le_of_lt h1) h2
 have hKl:=hK.len (by omega)
 obtain ⟨q,cc,e0,hr⟩:=hv.val encS_len
 simp only [Value.slice.injEq] at e0
 obtain ⟨rfl,_,rfl⟩:=e0
 have bx149_3:=rdB bx 37 [int 1,int se,int x.sr,int (x.a:Int),int (d.length:Int),.bool ck,str (cutD d x.a x.b),.slice none 0 0]
 have x3:=rdC bx149_3 3
 have x6:=rdC bx149_3 6
 have bx151_3:=rdB br 41 [int se,int tot,.slice p K.length c,str dat]
 have r2:=rdC bx151_3 2
 have r3:=rdC bx151_3 3
 refine spec_in (cap:=[.pointer (some ⟨br,0,none⟩),.pointer (some ⟨bx,0,none⟩)]) Tryz.func87 rfl rfl Tryz.ntmps87 rfl envZ (fun N β=>?_)
 refine Aan ?_;refine Aba ?_;refine Abw ?_
 refine BX [0,1,2,8,9] (0:Nat) (fun k=>k≤K.length) (fun k=>[(10,int k)]) (fun _=>[]) (fun k=>K.length-k) pickZ (Nat.zero_le _) covZ selZ ?_
 rintro k hk
 by_cases hlt:k<K.length
 rotate_left
 ·have hke:k=K.length:=by omega
  subst hke;refine Aby ?_;refine Aan ?_;exact BE ⟨rfl,rfl⟩
 have hkx:=List.getElem?_eq_getElem hlt
 have hka:=hK.at _ (List.getElem_mem hlt)
 have hmem:=List.getElem_mem hlt
 have hne:K≠[]:=fun h=>by rw [h] at hlt; simp at hlt
 have hdd:=hd hne
 obtain ⟨b7,o7,rfl,hrd7,z0,z1⟩:=spRow hr hkx
 generalize K[k]=y at hkx hka hmem hrd7 z0 z1
 obtain ⟨aa,ha⟩:∃ a:Nat,y.1=(a:Int):=⟨y.1.toNat,by omega⟩
 obtain ⟨ee,he⟩:∃ a:Nat,y.2=(a:Int):=⟨y.2.toNat,by omega⟩
 rw [ha,he] at hrd7;rw [ha] at z0;rw [he] at z1;refine Ac8 ?_;refine A6 ?_; rintro _ _ ⟨b,rfl,rfl⟩;refine AX ?_; rintro _ _ ⟨rfl,rfl⟩;refine Aat ?_
 revert b; intro b6
 refine AZ (ρ:=sng b6 _) takeZ ?_
 have bx216_3:=rdB b6 49 [int (aa:Int),int (ee:Int)]
 have m0:=rdC bx216_3 0
 have m1:=rdC bx216_3 1
 refine BD P5Z [] rfl (by kernel_rfl) selZ ?_
 refine Ac9 ?_;refine GF ?_;refine Ac9 ?_;refine Aaj ?_
 focus ((refine' CF rfl _ rfl rfl rfl rfl _; rotate_left; (apply B4; exact rfl; exact rfl)))
 refine EL ?_;refine zd_min ?_;refine Abk ?_
 have eb:(x.a:Int)+((cutD d x.a x.b).length:Int)=(x.b:Int):=by omega
 rw [eb]
 have ef:max (aa:Int) (x.a:Int)=((max aa x.a:Nat):Int):=by omega
 have et:min (ee:Int) (x.b:Int)=((min ee x.b:Nat):Int):=by omega
 rw [ef,et]
 generalize hfv:max aa x.a=f
 generalize htv:min ee x.b=t
 refine AD ?_
 refine BD (.q 0 (.q 1 (.q 2 (.q 3 (.q 4 (.q 5 (.q 6 (.q 7 (.q 8 (.q 9 (.q 10 (.q 11 (.q 12 (.q 13 (.q 14 (.q 15 (.q 16 (.q 17 (.q 18 (.q 19 (.q 20 (.q 21 .nil)))))))))))))))))))))) [] rfl (by kernel_rfl) selZ ?_
 by_cases hft:f<t
 ·have hcc:=cut_cut (d:=d) (a:=x.a) (b:=x.b) (f:=f) (t:=t) (by omega) (by omega) (by omega)
  have hmp:=maskD_piece (d:=d) (K:=K) (x:=f) (y:=t) (by omega) (by omega) (fun u g1 g2=>memI_iff.2 ⟨y,hmem,by omega,by omega⟩)
  have hlm:=maskD_len d K
  rw [← hdd] at hmp hlm
  have es1:(f:Int)-(x.a:Int)=((f-x.a:Nat):Int):=by omega
  have es2:(t:Int)-(x.a:Int)=((t-x.a:Nat):Int):=by omega
  refine Acc ?_;refine zd_lt ?_;refine Abp ?_;refine Acc ?_
  refine CF rfl (EO (i:=f) (j:=t) rfl rfl rfl rfl (by omega) (by omega)) rfl rfl rfl rfl ?_
  rw [hmp];refine Aaj ?_;refine Abp ?_;refine GB ?_;refine Abp ?_;refine GB ?_;rw [es1]
  skip
  rw [es2]
  refine CF rfl (EO (i:=f-x.a) (j:=t-x.a) rfl rfl rfl rfl (by omega) (by omega)) rfl rfl rfl rfl ?_
  rw [hcc];refine CF rfl (GU rfl rfl) rfl rfl rfl rfl ?_;rw [beq_self_eq_true];refine B7 ?_;refine Abx ?_;refine Abc ?_;refine CJ ?_
  exact BH (k+1) (by omega) (by omega) covZ selZ
 ·refine AJ ?_
  refine AJ ?_;refine DZ ?_;refine Acv ?_;refine Ack ?_;refine Acs ?_;refine Abx ?_;refine Abc ?_;refine CJ ?_
  exact BH (k+1) (by omega) (by omega) covZ selZ
theorem rcvSuits4_spec {ρ:PH} {se tot:Int} {d dat:List UInt8} {K:Iv} {p:Option Addr} {c:Nat} {x:Sg} {ck:Bool} (hv:SpAt ρ (.slice p K.length c) K) (hK:InI d.length K) (hn:d.length≤990) (hx:okG d.length x) (br bx:Nat) :
  Ans Tryz.prog (.func (.func 88) #[] #[.pointer (some ⟨br,0,none⟩),.pointer (some ⟨bx,0,none⟩)]) [] [sng bx (.cells #[int 1,int se,int x.sr,int (x.a:Int),int (d.length:Int),.bool ck,str (cutD d x.a x.b),.slice none 0 0] 37 (0,0)),sng br (.cells #[int se,int tot,.slice p K.length c,str dat] 41 (0,0)),ρ] (fun r=>r=.bool true):=by
 have hm:=rcvMerged_spec (se:=se) (tot:=tot) (dat:=dat) (ck:=ck) hv hK hn hx
 have xw:=rdB bx 37 [int 1,int se,int x.sr,int (x.a:Int),int (d.length:Int),.bool ck,str (cutD d x.a x.b),.slice none 0 0]
 have rw':RdN (sng br (.cells #[int se,int tot,.slice p K.length c,str dat] 41 (0,0))) br 0 [int se,int tot,.slice p K.length c,str dat]:=rdN_sng (vs:=[int se,int tot,.slice p K.length c,str dat])
 refine spec_in (cap:=[.pointer (some ⟨br,0,none⟩),.pointer (some ⟨bx,0,none⟩)]) Tryz.func88 rfl rfl Tryz.ntmps88 rfl envZ (fun N β=>?_)
 refine Aan ?_;refine Aaz ?_;refine AV ?_;refine B9 hm rfl rfl rdZ rfl rfl ?_;rintro _ σ ⟨p',c',rfl,hO⟩;refine Aa1 ?_;refine Aab ?_;refine CM ?_;refine Aaa ?_;exact BE ⟨rfl,rfl⟩
theorem rcvSuits_spec {ρ:PH} {se tot:Int} {d dat:List UInt8} {K:Iv} {p:Option Addr} {c:Nat} {x:Sg} {ck:Bool} (hv:SpAt ρ (.slice p K.length c) K) (hK:InI d.length K) (hn:d.length≤990) (hx:okG d.length x) (hd:K≠[]→dat=maskD d K) (ht:tot = -1∨tot=(d.length:Int)) :
  Ans Tryz.prog (fv 40) [.agg #[int se,int tot,.slice p K.length c,str dat],.agg #[int 1,int se,int x.sr,int (x.a:Int),int (d.length:Int),.bool ck,str (cutD d x.a x.b),.slice none 0 0]] [ρ] (fun r=>r=.bool true):=by
 have hs1:=fun br bx=>rcvSuits1_spec (se:=se) (tot:=tot) (d:=d) (dat:=dat) (K:=K) (p:=p) (c:=c) (x:=x) (ck:=ck) br bx
 have hs2:=fun br bx=>rcvSuits2_spec (se:=se) (tot:=tot) (d:=d) (dat:=dat) (K:=K) (p:=p) (c:=c) (x:=x) (ck:=ck) br bx ht
 have hs3:=fun br bx=>rcvSuits3_spec (se:=se) (tot:=tot) (ck:=ck) hv hK hn hx hd br bx
 have hs4:=fun br bx=>rcvSuits4_spec (se:=se) (tot:=tot) (dat:=dat) (ck:=ck) hv hK hn hx br bx
 refine spec_in (cap:=[]) Tryz.func40 rfl rfl Tryz.ntmps40 rfl envZ (fun N β=>?_)
 refine Aa ?_;refine BK (BM rfl) rfl rfl rfl ?_;rintro _ _ ⟨br,rfl,rfl⟩;refine AZ (ρ:=sng br _) takeZ ?_
 have cr:=rdB br 41 [int se,int tot,.slice p K.length c,str dat]
 have cr0:=rdC cr 0
 have cr1:=rdC cr 1
 have cr2:=rdC cr 2
 have cr3:=rdC cr 3
 refine BK (BM rfl) rfl rfl rfl ?_;rintro _ _ ⟨bx,rfl,rfl⟩;refine AZ (ρ:=sng bx _) takeZ ?_
 have cx:=rdB bx 37 [int 1,int se,int x.sr,int (x.a:Int),int (d.length:Int),.bool ck,str (cutD d x.a x.b),.slice none 0 0]
 have cx0:=rdC cx 0
 have cx1:=rdC cx 1
 have cx2:=rdC cx 2
 have cx3:=rdC cx 3
 have cx4:=rdC cx 4
 have cx5:=rdC cx 5
 have cx6:=rdC cx 6
 have cx7:=rdC cx 7
 refine Aaa ?_;refine AD ?_;refine Aa ?_;refine B0 ?_;refine B0 ?_;refine B0 ?_;refine B0 ?_;refine BS ?_; rintro _ _ ⟨b,rfl,rfl⟩;refine Abw ?_
 revert b; intro bf
 refine AZ (ρ:=sng bf _) takeZ ?_
 have bx396_3:=rdB bf 26 [(.func (.func 85) #[] #[.pointer (some ⟨bx,0,none⟩),.pointer (some ⟨br,0,none⟩)]),(.func (.func 86) #[] #[.pointer (some ⟨br,0,none⟩),.pointer (some ⟨bx,0,none⟩)]),(.func (.func 87) #[] #[.pointer (some ⟨br,0,none⟩),.pointer (some ⟨bx,0,none⟩)]),(.func (.func 88) #[] #[.pointer (some ⟨br,0,none⟩),.pointer (some ⟨bx,0,none⟩)])]
 have f0:=rdC bx396_3 0
 have f1:=rdC bx396_3 1
 have f2:=rdC bx396_3 2
 have f3:=rdC bx396_3 3
 refine BX [4,11,12] (0:Nat) (fun k=>k≤4) (fun k=>[(13,int k)]) (fun _=>[]) (fun k=>4-k) pickZ (Nat.zero_le _) covZ selZ ?_
 rintro k hk4
 have hk:k=0∨k=1∨k=2∨k=3∨k=4:=by omega
 rcases hk with hk|hk|hk|hk|hk
 ·subst hk
  refine Ab7 ?_;refine D9 ?_;refine AG ?_;refine Ab1 ?_;refine AW (hs1 br bx) rfl rfl rdZ rfl rfl ?_;rintro _ rfl;refine Abm ?_;refine Abc ?_
  exact BH 1 (by omega) (by omega) covZ selZ
 ·subst hk
  refine Ab7 ?_;refine D9 ?_;refine AG ?_;refine Ab1 ?_;refine AW (hs2 br bx) rfl rfl rdZ rfl rfl ?_;rintro _ rfl;refine Abm ?_;refine Abc ?_
  exact BH 2 (by omega) (by omega) covZ selZ
 ·subst hk
  refine Ab7 ?_;refine D9 ?_;refine AG ?_;refine Ab1 ?_;refine AW (hs3 br bx) rfl rfl rdZ rfl rfl ?_;rintro _ rfl;refine Abm ?_;refine Abc ?_
  exact BH 3 (by omega) (by omega) covZ selZ
 ·subst hk
  refine Ab7 ?_;refine D9 ?_;refine AG ?_;refine Ab1 ?_;refine AW (hs4 br bx) rfl rfl rdZ rfl rfl ?_;rintro _ rfl;refine Abm ?_;refine Abc ?_
  exact BH 4 (by omega) (by omega) covZ selZ
 ·subst hk
  refine Aby ?_;refine Aan ?_;exact BE ⟨rfl,rfl⟩
end Go.Proofs.YtahbngakckbenaaGreatDoor
