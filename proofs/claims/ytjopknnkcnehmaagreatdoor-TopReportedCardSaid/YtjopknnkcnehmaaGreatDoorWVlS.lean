/- Texts of this proof, one after the other; no conditions. -/
import Derived.Test.YtjopknnkcnehmaaGreatDoorRows
import Derived.Test.YtjopknnkcnehmaaGreatDoorTie
import Derived.Test.YtjopknnkcnehmaaGreatDoorCards
import Derived.LaidMore
import Derived.Lay
import Derived.SevenTiedAt
import Derived.Test.YtjopknnkcnehmaaGreatDoorWB10
import Derived.Test.YtjopknnkcnehmaaGreatDoorWB2
import Derived.Test.YtjopknnkcnehmaaGreatDoorWB8
set_option linter.all false
/- Fragments put together: what is known, checked. -/
namespace Go.Proofs.YtjopknnkcnehmaaGreatDoor
open Go.Eng Go.Step
set_option maxRecDepth 100000
set_option maxHeartbeats 64000000
theorem rsHead {x:Bn} (hx:x.ok):Ans Tryz.prog (fv 19) [.agg #[int (x.a:Int),int (x.c:Int),int 7,int 0,int 0,int 1,int (x.n:Int),int (x.l:Int),int 1,int 4,.slice none 0 0,str []]] [] (fun r=>r=int 0)∧Ans Tryz.prog (fv 60) [.agg #[int (x.a:Int),int (x.c:Int),int 7,int 0,int 0,int 1,int (x.n:Int),int (x.l:Int),int 1,int 4,.slice none 0 0,str []]] [] (fun r=>r=.bool false):=by
 have hb:Bn.ok ⟨x.a,x.c,0,0,x.n,x.l,[]⟩:=by
  unfold Bn.ok at hx ⊢
  dsimp only [List.length_nil]
  omega
 have h1:=bnCheck_spec hb
 have h2:=rsFragF_spec (x:=⟨x.a,x.c,0,0,x.n,x.l,[]⟩) rfl
 dsimp only at h1 h2
 exact ⟨h1,h2⟩
theorem rsCheck_spec {ρ:PH} {x:Bn} (hx:x.ok) {D:List UInt8} {f bk ck:Nat} (hk:KnAt ρ bk f D.length) (hf:f<D.length) (hz:∀ i,i<f→D[i]?=some 0) (hD:D.length≤4096):Ans Tryz.prog (fv 65) [.agg #[int (x.a:Int),int (x.c:Int),int 7,int 0,int 0,int 1,int (x.n:Int),int (x.l:Int),int 1,int 4,.slice none 0 0,str [],.slice (some ⟨bk,0,none⟩) 1 ck,str D]] [ρ] (fun r=>r=int 0):=by
 obtain ⟨hck,hfr⟩:=rsHead hx
 have hiv:=ivCheck_spec ρ (.slice (some ⟨bk,0,none⟩) 1 ck) [((f:Int),(D.length:Int))] (knAt_sp hk) (by show 1≤_; omega)
 rw [one_chk hf (by omega)] at hiv
 have hcp:=rsCopied_spec
 obtain ⟨k0,k1⟩:=hk
 refine spec_in (cap:=[]) Tryz.func65 rfl rfl Tryz.ntmps65 rfl envZ (fun N β=>?_)
 refine Aa ?_;refine A9 (BK rfl) rfl rfl rfl ?_;rintro _ _ ⟨b1,rfl,rfl⟩;refine AZ (ρ:=sng b1 (.cells #[int (x.a:Int),int (x.c:Int),int 7,int 0,int 0,int 1,int (x.n:Int),int (x.l:Int),int 1,int 4,.slice none 0 0,str [],.slice (some ⟨bk,0,none⟩) 1 ck,str D] 95 (0,0))) takeZ ?_
 have bx30_3:=rdB b1 95 [int (x.a:Int),int (x.c:Int),int 7,int 0,int 0,int 1,int (x.n:Int),int (x.l:Int),int 1,int 4,.slice none 0 0,str [],.slice (some ⟨bk,0,none⟩) 1 ck,str D]
 have c0:=rdC bx30_3 0
 have c1:=rdC bx30_3 1
 have c2:=rdC bx30_3 2
 have c3:=rdC bx30_3 3
 have c4:=rdC bx30_3 4
 have c5:=rdC bx30_3 5
 have c6:=rdC bx30_3 6
 have c7:=rdC bx30_3 7
 have c8:=rdC bx30_3 8
 have c9:=rdC bx30_3 9
 have c10:=rdC bx30_3 10
 have c11:=rdC bx30_3 11
 have c12:=rdC bx30_3 12
 have c13:=rdC bx30_3 13
 have cp:RdP (sng b1 (.cells #[int (x.a:Int),int (x.c:Int),int 7,int 0,int 0,int 1,int (x.n:Int),int (x.l:Int),int 1,int 4,.slice none 0 0,str [],.slice (some ⟨bk,0,none⟩) 1 ck,str D] 95 (0,0))) b1 0 [int (x.a:Int),int (x.c:Int),int 7,int 0,int 0,int 1,int (x.n:Int),int (x.l:Int),int 1,int 4,.slice none 0 0,str []]:=rdP_sng (k:=0) (xs:=[int (x.a:Int),int (x.c:Int),int 7,int 0,int 0,int 1,int (x.n:Int),int (x.l:Int),int 1,int 4,.slice none 0 0,str [],.slice (some ⟨bk,0,none⟩) 1 ck,str D]) rfl
 refine Aag ?_;refine Ab8 ?_;refine AR ?_
 focus ((refine AL hck rfl rfl rdZ rfl rfl ?_; rintro _ rfl))
 refine A5 ?_;refine AB ?_;refine AF ?_;refine AR ?_
 focus ((refine AL hfr rfl rfl rdZ rfl rfl ?_; rintro _ rfl))
 refine Abo ?_;refine Aay ?_
 focus ((refine' BB _ rfl rfl rfl _; rotate_left; (apply EB; exact rfl; exact rfl)))
 refine Abo ?_;refine Aay ?_
 focus ((rw [rpNe0]))
 focus ((refine BB (CA (k:=.i64) (a:=4) (b:=2) (c:=0) rfl rfl (by decide) (by decide) rfl rfl) rfl rfl rfl ?_))
 refine Abs ?_;refine Ace ?_
 focus ((refine' BB _ rfl rfl rfl _; rotate_left; (apply BW; exact rfl; exact rfl)))
 refine BM ?_;refine Aah ?_
 focus ((refine' BB _ rfl rfl rfl _; rotate_left; (apply BW; exact rfl; exact rfl)))
 refine BZ ?_;refine Aao ?_;refine Ace ?_
 focus ((refine AL hiv rfl rfl rdZ rfl rfl ?_; rintro _ rfl))
 refine Aai ?_;refine Aba ?_;refine AD ?_
 refine BH (.q 0 (.q 1 (.q 2 (.q 3 (.q 4 (.q 5 (.q 6 (.q 7 (.q 8 (.q 9 (.q 10 (.q 11 (.q 12 (.q 13 (.q 14 (.q 15 (.q 16 (.q 17 (.q 18 (.q 19 (.q 20 (.q 21 (.q 22 (.q 23 (.q 24 (.q 25 (.q 26 .nil))))))))))))))))))))))))))) [] rfl (by kernel_rfl) selZ ?_
 refine Aaj ?_;refine C0 ?_;refine D7 ?_;refine AS ?_;refine Aaj ?_;refine DN ?_;refine Aaj ?_;refine zd_ltF ?_;refine B8 ?_;refine AS ?_;refine Aaj ?_;refine Aaj ?_;refine C0 ?_;refine CY ?_;refine C8 ?_;refine Aaj ?_;refine Aaj ?_
 focus ((refine' BR rfl _ rfl rfl rfl rfl _; rotate_left; (apply BW; exact rfl; exact rfl)))
 refine EO ?_;refine B8 ?_;refine Abp ?_;refine Aak ?_;refine Aag ?_;refine Aak ?_
 focus ((refine' BB _ rfl rfl rfl _; rotate_left; (apply BW; exact rfl; exact rfl)))
 refine Abc ?_
 refine BQ [1,2,4,75] (X:=Nat) 0 (fun i=>i≤D.length) (fun i=>[(76,int (i:Int))]) (fun _=>[]) (fun i=>D.length-i) pickZ (Nat.zero_le _) covZ Sel.refl ?_
 rintro i hi
 by_cases hlt:i<D.length
 ·refine AD ?_
  refine AA ?_;refine Ab6 ?_;refine Aab ?_;refine Ab4 ?_
  refine BQ [1,2,75,76,5] (X:=Unit) () (fun _=>True) (fun _=>[(4,.slice (some ⟨bk,0,none⟩) 1 ck)]) (fun _=>[]) (fun _=>0) pickZ trivial covZ Sel.refl ?_
  rintro ⟨⟩ -
  by_cases hif:i<f
  ·have hx0:=hz i hif
   refine Ab ?_;refine BT ?_;refine C1 ?_;refine Aan ?_;refine CX ?_;refine Aac ?_;refine AB ?_;refine D8 ?_;refine AX ?_;refine AE ?_;refine Aas ?_;refine Aak ?_;refine AB ?_
   focus ((refine BB (FI rfl rfl rfl hx0) rfl rfl rfl ?_))
   refine A5 ?_;refine Ab1 ?_;refine Aae ?_;refine Aae ?_;refine Aae ?_;refine AN rfl rfl rfl ?_;refine Aao ?_;refine Abl ?_
   exact BJ (i+1) (by omega) (by omega) covZ Sel.refl
  have hx0:=List.getElem?_eq_getElem hlt
  generalize D[i]=bb at hx0
  by_cases hb0:bb.toNat=0
  ·refine AD ?_
   refine Aab ?_;refine BT ?_;refine C1 ?_;refine Aan ?_;refine CX ?_;refine Aac ?_;refine AB ?_;refine D8 ?_;refine AX ?_;refine AE ?_;refine Aas ?_;refine Aak ?_;refine AB ?_
   focus ((refine BB (DF rfl rfl rfl hx0) rfl rfl rfl ?_))
   refine A5 ?_;refine Ab1 ?_;refine Aae ?_;refine Aae ?_;refine Aae ?_;refine AN rfl rfl rfl ?_;refine Aao ?_;refine Abl ?_
   exact BJ (i+1) (by omega) (by omega) covZ Sel.refl
  ·refine AD ?_
   refine Aab ?_;refine BT ?_;refine C1 ?_;refine Aan ?_;refine CX ?_;refine Aac ?_;refine AB ?_;refine D8 ?_;refine AX ?_;refine AE ?_;refine Aas ?_;refine Aak ?_;refine AB ?_
   focus ((refine BB (DF rfl rfl rfl hx0) rfl rfl rfl ?_))
   refine DU ?_;refine Aan ?_;refine BT ?_;refine B9 ?_;refine Abw ?_;refine CX ?_;refine Aac ?_;refine BM ?_;refine AK ?_;refine AX ?_;refine Aaf ?_;refine Abl ?_
   exact BJ (i+1) (by omega) (by omega) covZ Sel.refl
 by_cases hf0:f=0
 ·refine AD ?_
  refine AA ?_;refine Aa7 ?_;refine AD ?_;refine AD ?_
  refine BH (.q 0 (.q 1 (.q 2 (.q 3 (.q 4 (.q 5 (.q 6 (.q 7 (.q 8 (.q 9 (.q 12 (.q 13 (.q 14 (.q 15 (.q 10 (.q 11 (.q 16 (.q 17 .nil)))))))))))))))))) [] rfl (by kernel_rfl) selZ ?_
  refine Aaj ?_;refine DN ?_;refine Aaj ?_;refine EO ?_;refine AS ?_;refine Aav ?_;refine Aav ?_;refine Aav ?_;refine Aav ?_;refine Aav ?_;refine B8 ?_;refine Abp ?_;refine Aaw ?_;exact A2 ⟨rfl,rfl⟩
 ·refine AD ?_
  refine AA ?_;refine Aa7 ?_;refine AD ?_;refine AD ?_
  refine BH (.q 0 (.q 1 (.q 2 (.q 3 (.q 4 (.q 5 (.q 6 (.q 7 (.q 8 (.q 9 (.q 12 (.q 13 (.q 14 (.q 15 (.l 10 .e (.q 11 (.q 16 (.q 17 .nil)))))))))))))))))) [] rfl (by kernel_rfl) selZ ?_
  refine Aaj ?_;refine DN ?_;refine Aaj ?_;refine FJ ?_;refine AS ?_;refine AQ ?_;refine Aaj ?_;refine AQ ?_;refine Aaj ?_;refine C0 ?_;refine BV (BI rfl hcp rfl rfl rdZ rfl rfl ?_);rintro _ rfl;refine C0 ?_;refine EN ?_;refine C9 ?_;refine Abp ?_;refine Aaw ?_;exact A2 ⟨rfl,rfl⟩
theorem rsSpanE_spec {x:Bn} (hx:x.ok) {f l:Nat} (h1:x.o=f) (h2:x.o+x.d.length=l):Ans Tryz.prog (fv 61) [.agg #[int (x.a:Int),int (x.c:Int),int 7,int (x.o:Int),int (x.t:Int),int 1,int (x.n:Int),int (x.l:Int),int 1,int 4,.slice none 0 0,str x.d]] [] (fun r=>r=.agg #[int (f:Int),int (l:Int)]):=by
 subst h1 h2;exact rsSpan_spec hx
theorem rsAgrees_spec {ρ:PH} {x:Bn} (hx:x.ok) (h0:x.o=0) {D:List UInt8} {k bk ck:Nat} (hk:KnAt ρ bk k D.length) (hk0:0<k) (hkl:k<D.length) (hd:x.d.length=k) (hD:D.length≤4096):Ans Tryz.prog (fv 68) [.agg #[int (x.a:Int),int (x.c:Int),int 7,int 0,int 0,int 1,int (x.n:Int),int (x.l:Int),int 1,int 4,.slice none 0 0,str [],.slice (some ⟨bk,0,none⟩) 1 ck,str D],.agg #[int (x.a:Int),int (x.c:Int),int 7,int (x.o:Int),int (x.t:Int),int 1,int (x.n:Int),int (x.l:Int),int 1,int 4,.slice none 0 0,str x.d]] [ρ] (fun r=>r=.bool true):=by
 have hsp:=rsSpanE_spec hx h0 (l:=k) (by omega)
 have hin:=fun b14=>rsInter_spec ρ (sng b14 (.cells #[int ((0:Nat):Int),int (k:Int)] 71 (0,0))) (.slice (some ⟨bk,0,none⟩) 1 ck) (.slice (some ⟨b14,0,none⟩) 1 1) _ _ (knAt_sp hk) (knAt_sp knAt_sng) (one_chk hkl (by omega)) (one_chk hk0 (by omega)) (show 1+1≤1000 by decide)
 simp only [cap_apart hk0 hkl,List.length_nil,List.flatMap_nil] at hin
 obtain ⟨k0,k1⟩:=hk
 refine spec_in (cap:=[]) Tryz.func68 rfl rfl Tryz.ntmps68 rfl envZ (fun N β=>?_)
 refine Aa ?_;refine A9 (BK rfl) rfl rfl rfl ?_;rintro _ _ ⟨b1,rfl,rfl⟩;refine A9 (BK rfl) rfl rfl rfl ?_;rintro _ _ ⟨b3,rfl,rfl⟩;refine AZ (ρ:=sng b1 (.cells #[int (x.a:Int),int (x.c:Int),int 7,int 0,int 0,int 1,int (x.n:Int),int (x.l:Int),int 1,int 4,.slice none 0 0,str [],.slice (some ⟨bk,0,none⟩) 1 ck,str D] 95 (0,0))) takeZ ?_;refine AZ (ρ:=sng b3 (.cells #[int (x.a:Int),int (x.c:Int),int 7,int (x.o:Int),int (x.t:Int),int 1,int (x.n:Int),int (x.l:Int),int 1,int 4,.slice none 0 0,str x.d] 34 (0,0))) takeZ ?_
 have bx26_3:=rdB b1 95 [int (x.a:Int),int (x.c:Int),int 7,int 0,int 0,int 1,int (x.n:Int),int (x.l:Int),int 1,int 4,.slice none 0 0,str [],.slice (some ⟨bk,0,none⟩) 1 ck,str D]
 have c0:=rdC bx26_3 0
 have c1:=rdC bx26_3 1
 have c2:=rdC bx26_3 2
 have c3:=rdC bx26_3 3
 have c4:=rdC bx26_3 4
 have c5:=rdC bx26_3 5
 have c6:=rdC bx26_3 6
 have c7:=rdC bx26_3 7
 have c8:=rdC bx26_3 8
 have c9:=rdC bx26_3 9
 have c10:=rdC bx26_3 10
 have c11:=rdC bx26_3 11
 have c12:=rdC bx26_3 12
 have c13:=rdC bx26_3 13
 have bx40_3:=rdB b3 34 [int (x.a:Int),int (x.c:Int),int 7,int (x.o:Int),int (x.t:Int),int 1,int (x.n:Int),int (x.l:Int),int 1,int 4,.slice none 0 0,str x.d]
 have e0:=rdC bx40_3 0
 have e1:=rdC bx40_3 1
 have e2:=rdC bx40_3 2
 have e3:=rdC bx40_3 3
 have e4:=rdC bx40_3 4
 have e5:=rdC bx40_3 5
 have e6:=rdC bx40_3 6
 have e7:=rdC bx40_3 7
 have e8:=rdC bx40_3 8
 have e9:=rdC bx40_3 9
 have e10:=rdC bx40_3 10
 have e11:=rdC bx40_3 11
 have ew:=rdB b3 34 [int (x.a:Int),int (x.c:Int),int 7,int (x.o:Int),int (x.t:Int),int 1,int (x.n:Int),int (x.l:Int),int 1,int 4,.slice none 0 0,str x.d]
 refine Aag ?_
 refine BH (.q 0 (.q 1 (.q 2 (.l 3 .e (.l 4 .e (.l 5 .e (.q 6 (.q 7 (.q 8 (.q 9 (.q 10 .nil))))))))))) [] rfl (by kernel_rfl) Sel.nil ?_
 refine Aaj ?_;refine B5 ?_;refine BV (BI rfl hsp rfl rfl rdZ rfl rfl ?_);rintro _ rfl;refine BN ?_; rintro _ _ ⟨b,rfl,rfl⟩
 revert b; intro b14
 refine BV (EH rfl (hin b14) rfl rfl rdZ rfl rfl ?_);rintro _ _ ⟨σ,⟨p,c,rfl,hO⟩,rfl⟩;refine AS ?_;refine CK ?_;refine CK ?_;refine BD ?_;refine Abn ?_;refine Ab ?_;refine Acf ?_
 refine BQ [2,3,4,18,19] (X:=Unit) () (fun _=>True) (fun _=>[(20,int 0)]) (fun _=>[]) (fun _=>0) pickZ trivial covZ Sel.nil ?_
 rintro ⟨⟩ -;refine Abd ?_;refine Abr ?_;refine BZ ?_;refine Aah ?_;refine CX ?_;refine Aac ?_;refine C1 ?_;refine AK ?_;refine Ab1 ?_;refine Aae ?_;refine Abv ?_;exact A2 ⟨rfl,rfl⟩
theorem rsAdd_spec {ρ:PH} {x:Bn} (hx:x.ok) (h0:x.o=0) {D:List UInt8} (ht:x.t=D.length) {k bk ck:Nat} (hk:KnAt ρ bk k D.length) (hk0:0<k) (hkl:k<D.length) (hd:x.d.length=k) (hz:∀ i,i<k→D[i]?=some 0) (hD:D.length≤4096):Makes Tryz.prog (fv 34) [.agg #[int (x.a:Int),int (x.c:Int),int 7,int 0,int 0,int 1,int (x.n:Int),int (x.l:Int),int 1,int 4,.slice none 0 0,str [],.slice (some ⟨bk,0,none⟩) 1 ck,str D],.agg #[int (x.a:Int),int (x.c:Int),int 7,int (x.o:Int),int (x.t:Int),int 1,int (x.n:Int),int (x.l:Int),int 1,int 4,.slice none 0 0,str x.d]] [ρ] (fun r σ=>∃ bk ck,r=.tuple #[.agg #[int (x.a:Int),int (x.c:Int),int 7,int 0,int 0,int 1,int (x.n:Int),int (x.l:Int),int 1,int 4,.slice none 0 0,str [],.slice (some ⟨bk,0,none⟩) 1 ck,str (wrB D x.o x.d)],int 0]∧KnAt σ bk 0 D.length):=by
 have hpc:=rsCheck_spec (ck:=ck) hx hk hkl hz hD
 have hck:=bnCheck_spec hx
 have hfr:=rsFragT_spec (x:=x) (by omega)
 have hfh:=rsFields_spec ⟨x.a,x.c,0,0,x.n,x.l,[]⟩
 dsimp only at hfh
 have hfb:=rsFields_spec x
 have hcp:=rsCopied_spec
 have heq:=blEqual_spec
 have hag:=rsAgrees_spec (ck:=ck) hx h0 hk hk0 hkl hd hD
 have hsp:=rsSpanE_spec hx h0 (l:=k) (by omega)
 have hun:=fun b14=>snUnion_spec ρ (sng b14 (.cells #[int ((0:Nat):Int),int (k:Int)] 71 (0,0))) (.slice (some ⟨bk,0,none⟩) 1 ck) (.slice (some ⟨b14,0,none⟩) 1 1) _ _ (knAt_sp hk) (knAt_sp knAt_sng) (one_chk hkl (by omega)) (one_chk hk0 (by omega)) (show 1+1≤1000 by decide)
 simp only [cup_apart hk0 hkl,List.length_singleton] at hun
 have hwr:=rsWrite_spec (x:=x) (S:=D) (by omega) (by omega) hD
 refine spec_in (cap:=[]) Tryz.func34 rfl rfl Tryz.ntmps34 rfl envZ (fun N β=>?_)
 refine Aa ?_;refine A9 (BK rfl) rfl rfl rfl ?_;rintro _ _ ⟨b2,rfl,rfl⟩;refine A9 (BK rfl) rfl rfl rfl ?_;rintro _ _ ⟨b3,rfl,rfl⟩;refine AZ (ρ:=sng b3 (.cells #[int (x.a:Int),int (x.c:Int),int 7,int (x.o:Int),int (x.t:Int),int 1,int (x.n:Int),int (x.l:Int),int 1,int 4,.slice none 0 0,str x.d] 34 (0,0))) takeZ ?_
 have bx136_3:=rdB b3 34 [int (x.a:Int),int (x.c:Int),int 7,int (x.o:Int),int (x.t:Int),int 1,int (x.n:Int),int (x.l:Int),int 1,int 4,.slice none 0 0,str x.d]
 have e0:=rdC bx136_3 0
 have e1:=rdC bx136_3 1
 have e2:=rdC bx136_3 2
 have e3:=rdC bx136_3 3
 have e4:=rdC bx136_3 4
 have e5:=rdC bx136_3 5
 have e6:=rdC bx136_3 6
 have e7:=rdC bx136_3 7
 have e8:=rdC bx136_3 8
 have e9:=rdC bx136_3 9
 have e10:=rdC bx136_3 10
 have e11:=rdC bx136_3 11
 have ew:=rdB b3 34 [int (x.a:Int),int (x.c:Int),int 7,int (x.o:Int),int (x.t:Int),int 1,int (x.n:Int),int (x.l:Int),int 1,int 4,.slice none 0 0,str x.d]
 have cp:RdN (sng b2 (.cells #[int (x.a:Int),int (x.c:Int),int 7,int 0,int 0,int 1,int (x.n:Int),int (x.l:Int),int 1,int 4,.slice none 0 0,str [],.slice (some ⟨bk,0,none⟩) 1 ck,str D] 95 (0,0))) b2 0 [int (x.a:Int),int (x.c:Int),int 7,int 0,int 0,int 1,int (x.n:Int),int (x.l:Int),int 1,int 4,.slice none 0 0,str []]:=(rdP_sng (k:=0) (xs:=[int (x.a:Int),int (x.c:Int),int 7,int 0,int 0,int 1,int (x.n:Int),int (x.l:Int),int 1,int 4,.slice none 0 0,str [],.slice (some ⟨bk,0,none⟩) 1 ck,str D]) rfl).rd
 refine A9 (BP rfl) rfl rfl rfl ?_;rintro _ _ ⟨b4,rfl,rfl⟩;refine Abt ?_
 focus ((refine AL hpc rfl rfl rdZ rfl rfl ?_; rintro _ rfl))
 refine A5 ?_;refine AB ?_;refine AR ?_
 focus ((refine AL hck rfl rfl rdZ rfl rfl ?_; rintro _ rfl))
 refine Abs ?_;refine AD ?_;refine Aat ?_
 focus ((refine AL hfr rfl rfl rdZ rfl rfl ?_; rintro _ rfl))
 refine AY ?_;refine Aax ?_;refine AD ?_
 refine BH (.q 0 (.q 1 (.q 3 (.l 2 .e (.l 4 .e (.q 5 (.q 6 (.q 7 (.q 8 (.q 9 (.q 10 (.q 11 (.q 12 (.q 13 (.q 14 (.q 15 (.q 16 (.q 17 (.q 18 (.q 20 (.q 21 (.l 19 .e (.l 22 .e (.l 23 .e (.q 24 (.q 25 .nil)))))))))))))))))))))))))) [] rfl (by kernel_rfl) Sel.nil ?_
 refine AQ ?_;refine B5 ?_;refine B5 ?_;refine BV (BI rfl hfh rfl rfl rdZ rfl rfl ?_);rintro _ rfl;refine BV (BI rfl hfb rfl rfl rdZ rfl rfl ?_);rintro _ rfl
 focus ((refine' BR rfl _ rfl rfl rfl rfl _; rotate_left; (apply FS [(x.a:Int),(x.c:Int),7,0,0,1,(x.n:Int),(x.l:Int),1,4]; exact rfl; exact rfl; exact rfl; kernel_rfl; kernel_rfl; kernel_rfl)))
 refine AS ?_;refine AQ ?_;refine Aaj ?_;refine Aaj ?_
 focus ((refine' BR rfl _ rfl rfl rfl rfl _; rotate_left; (apply BW; exact rfl; exact rfl)))
 refine EN ?_;refine B8 ?_;refine AS ?_;refine AQ ?_;refine Aaj ?_;refine Aaj ?_;refine BV (BI rfl hcp rfl rfl rdZ rfl rfl ?_);rintro _ rfl;refine BV (BI rfl hcp rfl rfl rdZ rfl rfl ?_);rintro _ rfl;refine BV (BI rfl heq rfl rfl rdZ rfl rfl ?_);rintro _ rfl;refine CQ ?_;refine B8 ?_;refine Abp ?_;refine AD ?_;refine Aat ?_;refine AR ?_
 focus ((refine AL hag rfl rfl rdZ rfl rfl ?_; rintro _ rfl))
 refine AY ?_;refine Aax ?_
 refine BH (.q 0 (.q 1 (.q 2 (.l 3 .e (.l 4 .e (.l 5 .e (.q 6 (.q 7 (.q 8 (.q 9 (.q 10 .nil))))))))))) [] rfl (by kernel_rfl) Sel.nil ?_
 refine Aaj ?_;refine B5 ?_;refine BV (BI rfl hsp rfl rfl rdZ rfl rfl ?_);rintro _ rfl;refine BN ?_; rintro _ _ ⟨b,rfl,rfl⟩
 revert b; intro b14
 refine BV (EH rfl (hun b14) rfl rfl rdZ rfl rfl ?_);rintro _ _ ⟨σ,⟨p,c,rfl,hO⟩,rfl⟩
 obtain ⟨bk2,c2,e2,hk2⟩:=knAt_own (f:=0) (l:=D.length) hO
 obtain ⟨rfl,rfl⟩:p=some ⟨bk2,0,none⟩∧c=c2:=by simpa using e2
 refine AS ?_;refine CK ?_;refine CK ?_;refine BD ?_;refine Abn ?_;refine Ab ?_;refine Ab9 ?_;refine Aab ?_;refine Aac ?_;refine AR ?_
 focus ((refine AL hwr rfl rfl rdZ rfl rfl ?_; rintro _ rfl))
 refine AF ?_;refine A6 ?_; rintro _ _ ⟨rfl,rfl⟩;refine AF ?_;refine A6 ?_; rintro _ _ ⟨rfl,rfl⟩;refine Aal ?_;refine Abr ?_;refine CN ?_;refine Aau ?_;refine AA ?_;refine Aac ?_;refine AF ?_;refine AF ?_;refine A6 ?_; rintro _ _ ⟨rfl,rfl⟩;refine AE ?_;refine Aat ?_;refine A4 ?_; rintro _ _ ⟨rfl,rfl⟩;refine Aaa ?_;exact AP (H':=[σ]) (resSE (b1:=b4) (T:=95) (v1:=[int (x.a:Int),int (x.c:Int),int 7,int 0,int 0,int 1,int (x.n:Int),int (x.l:Int),int 1,int 4,.slice none 0 0,str [],.slice (some ⟨bk2,0,none⟩) 1 c,str (wrB D x.o x.d)]) rfl rfl rfl rfl rfl (cells_own memZ)) rsubZ selZ ⟨σ,⟨bk2,c,rfl,hk2⟩,rfl⟩
theorem rsResult_spec {ρ:PH} {x:Bn} (hx:x.ok) {D:List UInt8} {bk ck:Nat} (hk:KnAt ρ bk 0 D.length) (h0:0<D.length) (hD:D.length≤4096):Ans Tryz.prog (fv 35) [.agg #[int (x.a:Int),int (x.c:Int),int 7,int 0,int 0,int 1,int (x.n:Int),int (x.l:Int),int 1,int 4,.slice none 0 0,str [],.slice (some ⟨bk,0,none⟩) 1 ck,str D]] [ρ] (fun r=>r=.tuple #[.agg #[int (x.a:Int),int (x.c:Int),int 7,int 0,int 0,int 1,int (x.n:Int),int (x.l:Int),int 1,int 4,.slice none 0 0,str D],int 0]):=by
 have hpc:=rsCheck_spec (ck:=ck) hx hk h0 (fun i hi=>absurd hi (Nat.not_lt_zero _)) hD
 have hkr:=hk.rd
 refine spec_in (cap:=[]) Tryz.func35 rfl rfl Tryz.ntmps35 rfl envZ (fun N β=>?_)
 refine Aa ?_;refine A9 (BK rfl) rfl rfl rfl ?_;rintro _ _ ⟨b1,rfl,rfl⟩;refine AZ (ρ:=sng b1 (.cells #[int (x.a:Int),int (x.c:Int),int 7,int 0,int 0,int 1,int (x.n:Int),int (x.l:Int),int 1,int 4,.slice none 0 0,str [],.slice (some ⟨bk,0,none⟩) 1 ck,str D] 95 (0,0))) takeZ ?_
 have bx18_3:=rdB b1 95 [int (x.a:Int),int (x.c:Int),int 7,int 0,int 0,int 1,int (x.n:Int),int (x.l:Int),int 1,int 4,.slice none 0 0,str [],.slice (some ⟨bk,0,none⟩) 1 ck,str D]
 have c0:=rdC bx18_3 0
 have c1:=rdC bx18_3 1
 have c2:=rdC bx18_3 2
 have c3:=rdC bx18_3 3
 have c4:=rdC bx18_3 4
 have c5:=rdC bx18_3 5
 have c6:=rdC bx18_3 6
 have c7:=rdC bx18_3 7
 have c8:=rdC bx18_3 8
 have c9:=rdC bx18_3 9
 have c10:=rdC bx18_3 10
 have c11:=rdC bx18_3 11
 have c12:=rdC bx18_3 12
 have c13:=rdC bx18_3 13
 have cw:=rdB b1 95 [int (x.a:Int),int (x.c:Int),int 7,int 0,int 0,int 1,int (x.n:Int),int (x.l:Int),int 1,int 4,.slice none 0 0,str [],.slice (some ⟨bk,0,none⟩) 1 ck,str D]
 have cp:RdP (sng b1 (.cells #[int (x.a:Int),int (x.c:Int),int 7,int 0,int 0,int 1,int (x.n:Int),int (x.l:Int),int 1,int 4,.slice none 0 0,str [],.slice (some ⟨bk,0,none⟩) 1 ck,str D] 95 (0,0))) b1 0 [int (x.a:Int),int (x.c:Int),int 7,int 0,int 0,int 1,int (x.n:Int),int (x.l:Int),int 1,int 4,.slice none 0 0,str []]:=rdP_sng (k:=0) (xs:=[int (x.a:Int),int (x.c:Int),int 7,int 0,int 0,int 1,int (x.n:Int),int (x.l:Int),int 1,int 4,.slice none 0 0,str [],.slice (some ⟨bk,0,none⟩) 1 ck,str D]) rfl
 refine A9 (BP rfl) rfl rfl rfl ?_;rintro _ _ ⟨b2,rfl,rfl⟩;refine Abt ?_
 focus ((refine AL hpc rfl rfl rdZ rfl rfl ?_; rintro _ rfl))
 refine Aba ?_;refine AD ?_
 refine BH (.q 0 (.q 1 (.q 2 (.q 3 (.q 4 (.q 5 (.q 6 (.q 7 (.q 8 (.q 9 (.q 10 (.q 11 (.q 12 (.q 13 (.q 14 .nil))))))))))))))) [] rfl (by kernel_rfl) Sel.nil ?_
 refine Aaj ?_;refine C0 ?_;refine EN ?_;refine AS ?_;refine Aaj ?_;refine DN ?_;refine B5 ?_;refine Aaj ?_
 focus ((refine' BR rfl _ rfl rfl rfl rfl _; rotate_left; (apply BW; exact rfl; exact rfl)))
 refine D9 ?_
 focus ((refine' BR rfl _ rfl rfl rfl rfl _; rotate_left; (apply FS [0,(D.length:Int)]; exact rfl; exact rfl; exact rfl; kernel_rfl; kernel_rfl; kernel_rfl)))
 refine B8 ?_;refine Abp ?_;refine Ab8 ?_;refine AR ?_;refine BG ?_; rintro _ _ ⟨b,rfl,rfl⟩;refine A4 ?_; rintro _ _ ⟨rfl,rfl⟩;refine AE ?_;refine Aak ?_;refine AF ?_;refine A6 ?_; rintro _ _ ⟨rfl,rfl⟩;refine AE ?_;refine Aat ?_;refine A4 ?_; rintro _ _ ⟨rfl,rfl⟩;refine Aaa ?_;exact AP (resSE (b1:=b2) (T:=34) (v1:=[int (x.a:Int),int (x.c:Int),int 7,int 0,int 0,int 1,int (x.n:Int),int (x.l:Int),int 1,int 4,.slice none 0 0,str D]) rfl rfl rfl rfl rfl (cells_own memZ)) rsubZ selZ ⟨rfl,rfl⟩
theorem rsAll_spec {ρ:PH} {z:Bn} (hz:z.ok) (h0:z.o=0∧z.t=0) {k:Nat} (hk:0<k∧k<z.d.length) {bl cl:Nat} (hcl:2≤cl) (r2:RdN ρ bl 0 [int (z.a:Int),int (z.c:Int),int 7,int (k:Int),int (z.d.length:Int),int 1,int (z.n:Int),int (z.l:Int),int 1,int 4,.slice none 0 0,str (z.d.drop k)]) (r1:RdN ρ bl 12 [int (z.a:Int),int (z.c:Int),int 7,int ((0:Nat):Int),int (z.d.length:Int),int 1,int (z.n:Int),int (z.l:Int),int 1,int 4,.slice none 0 0,str (z.d.take k)]):Ans Tryz.prog (fv 11) [.slice (some ⟨bl,0,none⟩) 2 cl] [ρ] (fun r=>r=.tuple #[.agg #[int (z.a:Int),int (z.c:Int),int 7,int 0,int 0,int 1,int (z.n:Int),int (z.l:Int),int 1,int 4,.slice none 0 0,str z.d],int 0]):=by
 have hok2:=Bn.sec_ok hz h0 hk
 have hok1:=Bn.fst_ok hz h0 hk
 have hdl:=Bn.d_len hz
 have hnew:=rsNew_spec hok2 (by dsimp only; omega) (by dsimp only; omega)
 have hadd:=fun (σ:PH) (bk ck:Nat) (hk2:KnAt σ bk k (List.replicate k (0:UInt8) ++ z.d.drop k).length)=>rsAdd_spec (ck:=ck) hok1 rfl (two_zero (Nat.le_of_lt hk.2)).1.symm hk2 hk.1 (by rw [(two_zero (Nat.le_of_lt hk.2)).1]; exact hk.2) (by dsimp only; rw [List.length_take]; omega) (two_zero (Nat.le_of_lt hk.2)).2 (by rw [(two_zero (Nat.le_of_lt hk.2)).1]; omega)
 have hres:=fun (σ:PH) (bk ck:Nat) (hk2:KnAt σ bk 0 z.d.length)=>rsResult_spec (ck:=ck) hz hk2 (by omega) (by omega)
 have e1:k+(z.d.drop k).length=z.d.length:=by rw [List.length_drop]; omega
 simp only [wrB_two (Nat.le_of_lt hk.2),e1] at hnew;simp only [wrB_one (Nat.le_of_lt hk.2),(two_zero (Nat.le_of_lt hk.2)).1] at hadd
 obtain ⟨D1,hD1⟩:∃ D1,List.replicate k (0:UInt8) ++ z.d.drop k=D1:=⟨_,rfl⟩
 rw [hD1] at hnew hadd
 have hcu:cutP (some ⟨bl,0,none⟩) cl 1 12=some ⟨bl,12,none⟩:=by
  unfold cutP
  rw [if_neg (by omega)]
  exact congrArg some (Addr.add_lit _ _ _)
 refine spec_in (cap:=[]) Tryz.func11 rfl rfl Tryz.ntmps11 rfl envZ (fun N β=>?_)
 refine Aa ?_;refine A9 (BP rfl) rfl rfl rfl ?_;rintro _ _ ⟨b2,rfl,rfl⟩;refine Aam ?_;refine BT ?_;refine B9 ?_;refine Aaf ?_;refine Aab ?_;refine CX ?_;refine AR ?_;refine C3 hnew rfl rfl rdZ rfl rfl ?_;rintro _ σ0 ⟨bk0,rfl,hk0⟩;refine Aaq ?_;refine BG ?_; rintro _ _ ⟨b,rfl,rfl⟩;refine A4 ?_; rintro _ _ ⟨rfl,rfl⟩;refine Aam ?_
 refine BB (EI (i:=1) (s:=12) rfl rfl rfl rfl (by omega)) rfl rfl rfl ?_
 rw [hcu];refine Acf ?_
 revert b; intro b4
 refine BQ [2,3,4,20,21] (X:=Nat × Nat × Nat × PH) (0,bk0,1,σ0) (fun y=>y.1≤1∧KnAt y.2.2.2 y.2.1 (allF k y.1) z.d.length) (fun y=>[(22,int (y.1:Int)),(5,int 0)]) (fun y=>[sng b4 (.cells #[int (z.a:Int),int (z.c:Int),int 7,int 0,int 0,int 1,int (z.n:Int),int (z.l:Int),int 1,int 4,.slice none 0 0,str [],.slice (some ⟨y.2.1,0,none⟩) 1 y.2.2.1,str (allD D1 z.d y.1)] 95 (0,0)),y.2.2.2,sng b2 (.cells #[int 0,int 0,int 0,int 0,int 0,int 0,int 0,int 0,int 0,int 0,.slice none 0 0,str []] 34 (0,0))]) (fun y=>1-y.1) pickZ ⟨Nat.zero_le _,hk0⟩ covZ selZ ?_
 rintro ⟨j,bk,ck,σ⟩ ⟨hj,hkn⟩
 dsimp only at hj hkn ⊢
 by_cases hj0:j=0
 ·subst hj0
  refine Ac ?_;refine Aa ?_;refine C7 ?_;refine AR ?_;refine BG ?_; rintro _ _ ⟨b,rfl,rfl⟩;refine A4 ?_; rintro _ _ ⟨rfl,rfl⟩;refine Abx ?_;refine Ab9 ?_;refine AA ?_;refine AR ?_;refine AR ?_;refine C3 (hadd σ bk ck hkn) rfl rfl rdZ rfl rfl ?_;rintro _ σ1 ⟨bk1,ck1,rfl,hk1⟩;refine Aaq ?_;refine A4 ?_; rintro _ _ ⟨rfl,rfl⟩;refine Aaa ?_;refine Abl ?_
  exact BJ (1,bk1,ck1,σ1) ⟨Nat.le_refl _,hk1⟩ (by dsimp only; omega) covZ selZ
 have hj1:j=1:=by omega
 subst hj1;refine Abd ?_;refine Ab ?_;refine Ab9 ?_;refine Aat ?_;refine AL (hres σ bk ck hkn) rfl rfl rdZ rfl rfl ?_;rintro _ rfl;refine Aap ?_;refine A4 ?_; rintro _ _ ⟨rfl,rfl⟩;refine Aaa ?_;exact AP (resSE (b1:=b2) (T:=34) (v1:=[int (z.a:Int),int (z.c:Int),int 7,int 0,int 0,int 1,int (z.n:Int),int (z.l:Int),int 1,int 4,.slice none 0 0,str z.d]) rfl rfl rfl rfl rfl (cells_own memZ)) rsubZ selZ ⟨rfl,rfl⟩
theorem tpBad {k a c q o t n m r:Int} (hb:¬ rpI k a c q o t n m r) (lt ct:Nat):Ans Tryz.prog (fv 3) [.agg #[int k,int a,int c,int q,int o,int t,int n,int m,int r],.int .u16 (lt:Int),.int .u8 (ct:Int)] [] (fun v=>v=.bool true):=by
 have haw:Ans Tryz.prog (.func (.func 5) #[] #[]) [] [] (fun r=>r=.bool true):=awake_spec
 have hrf:Ans Tryz.prog (fv 4) [.agg #[int k,int a,int c,int q,int o,int t,int n,int m,int r]] [] (fun v=>∃ e:Int,v=int e∧e≠0):=(rfCheck_spec k a c q o t n m r).mono (fun v H' h=>⟨h.1,h.2.elim (fun h=>absurd h.2 hb) (fun h=>h.1)⟩)
 refine spec_in (cap:=[]) Tryz.func3 rfl rfl Tryz.ntmps3 rfl envZ (fun N β=>?_)
 refine Aa ?_;refine A9 (BK rfl) rfl rfl rfl ?_;rintro _ _ ⟨b3,rfl,rfl⟩;refine AZ (ρ:=sng b3 (.cells #[int k,int a,int c,int q,int o,int t,int n,int m,int r] 25 (0,0))) takeZ ?_
 have bx19_3:=rdB b3 25 [int k,int a,int c,int q,int o,int t,int n,int m,int r]
 have c0:=rdC bx19_3 0
 have c1:=rdC bx19_3 1
 have c2:=rdC bx19_3 2
 have c3:=rdC bx19_3 3
 have c4:=rdC bx19_3 4
 have c5:=rdC bx19_3 5
 have c6:=rdC bx19_3 6
 have c7:=rdC bx19_3 7
 have c8:=rdC bx19_3 8
 have cw:=rdB b3 25 [int k,int a,int c,int q,int o,int t,int n,int m,int r]
 refine Abt ?_;refine AL hrf rfl rfl rdZ rfl rfl ?_;rintro _ ⟨e,rfl,he⟩;refine DU ?_;refine Aa9 ?_;refine AX ?_;refine Aau ?_;refine Aa ?_;refine AL haw rfl rfl rdZ rfl rfl ?_;rintro _ rfl;refine Aaa ?_;exact A2 ⟨rfl,rfl⟩
def tpC (a b:List Value):Nat→List Value
 | 0=>[]
 | 1=>a
 | _+2=>a ++ b
theorem rdN_part {ρ:PH} {b o n:Nat} {xs ys:List Value} (h:RdN ρ b o xs) (e:ys=(xs.drop n).take ys.length):RdN ρ b (o+n) ys:=fun j v hv=>by
 have hj:=(List.getElem?_eq_some_iff.1 hv).1
 rw [Nat.add_assoc];refine h (n+j) v ?_;rw [e,List.getElem?_take_of_lt hj,List.getElem?_drop] at hv;exact hv
theorem tpLate {x:Rep} (hx:x.ok) (hl:1099511625776<x.m) (lt ct:Nat):Ans Tryz.prog (fv 3) [.agg #[int (x.k:Int),int (x.a:Int),int (x.c:Int),int (x.q:Int),int (x.o:Int),int (x.t:Int),int (x.n:Int),int (x.m:Int),int (x.r:Int)],.int .u16 (lt:Int),.int .u8 (ct:Int)] [] (fun v=>v=.bool true):=by
 have haw:Ans Tryz.prog (.func (.func 5) #[] #[]) [] [] (fun r=>r=.bool true):=awake_spec
 have hrf:Ans Tryz.prog (fv 4) [.agg #[int (x.k:Int),int (x.a:Int),int (x.c:Int),int (x.q:Int),int (x.o:Int),int (x.t:Int),int (x.n:Int),int (x.m:Int),int (x.r:Int)]] [] (fun v=>v=int 0):=(rfCheck_spec _ _ _ _ _ _ _ _ _).mono (fun v H' h=>⟨h.1,h.2.elim (fun h=>h.1) (fun h=>absurd (by unfold Rep.ok at hx; unfold rpI rpIdI; omega) h.2)⟩)
 refine spec_in (cap:=[]) Tryz.func3 rfl rfl Tryz.ntmps3 rfl envZ (fun N β=>?_)
 refine Aa ?_;refine A9 (BK rfl) rfl rfl rfl ?_;rintro _ _ ⟨b3,rfl,rfl⟩;refine AZ (ρ:=sng b3 (.cells #[int (x.k:Int),int (x.a:Int),int (x.c:Int),int (x.q:Int),int (x.o:Int),int (x.t:Int),int (x.n:Int),int (x.m:Int),int (x.r:Int)] 25 (0,0))) takeZ ?_
 have bx71_3:=rdB b3 25 [int (x.k:Int),int (x.a:Int),int (x.c:Int),int (x.q:Int),int (x.o:Int),int (x.t:Int),int (x.n:Int),int (x.m:Int),int (x.r:Int)]
 have c0:=rdC bx71_3 0
 have c1:=rdC bx71_3 1
 have c2:=rdC bx71_3 2
 have c3:=rdC bx71_3 3
 have c4:=rdC bx71_3 4
 have c5:=rdC bx71_3 5
 have c6:=rdC bx71_3 6
 have c7:=rdC bx71_3 7
 have c8:=rdC bx71_3 8
 have cw:=rdB b3 25 [int (x.k:Int),int (x.a:Int),int (x.c:Int),int (x.q:Int),int (x.o:Int),int (x.t:Int),int (x.n:Int),int (x.m:Int),int (x.r:Int)]
 refine Abt ?_;refine AL hrf rfl rfl rdZ rfl rfl ?_;rintro _ rfl;refine A5 ?_;refine Aah ?_;refine C1 ?_;refine AK ?_;refine Aau ?_;refine Aa ?_;refine AL haw rfl rfl rdZ rfl rfl ?_;rintro _ rfl;refine Aaa ?_;exact A2 ⟨rfl,rfl⟩
theorem tpGood {x:Rep} (hx:x.ok) (hm:x.m≤1099511625776) (lt ct:Nat) (hlt:lt≤65535) (hct:ct≤255):Ans Tryz.prog (fv 3) [.agg #[int (x.k:Int),int (x.a:Int),int (x.c:Int),int (x.q:Int),int (x.o:Int),int (x.t:Int),int (x.n:Int),int (x.m:Int),int (x.r:Int)],.int .u16 (lt:Int),.int .u8 (ct:Int)] [] (fun v=>v=.bool true):=by
 have haw:Ans Tryz.prog (.func (.func 5) #[] #[]) [] [] (fun r=>r=.bool true):=awake_spec
 have hrf:Ans Tryz.prog (fv 4) [.agg #[int (x.k:Int),int (x.a:Int),int (x.c:Int),int (x.q:Int),int (x.o:Int),int (x.t:Int),int (x.n:Int),int (x.m:Int),int (x.r:Int)]] [] (fun v=>v=int 0):=(rfCheck_spec _ _ _ _ _ _ _ _ _).mono (fun v H' h=>⟨h.1,h.2.elim (fun h=>h.1) (fun h=>absurd (by unfold Rep.ok at hx; unfold rpI rpIdI; omega) h.2)⟩)
 have el:(1:Int)+(lt:Int) % 1000=((1+lt % 1000:Nat):Int):=by omega
 obtain ⟨l,hl⟩:∃ l,1+lt % 1000=l:=⟨_,rfl⟩
 rw [hl] at el
 have hl1:1≤l:=by omega
 have hl2:x.m+l≤1099511627776:=by omega
 have hwr:=rpWrap_spec hx hl1 hl2
 have hun:=rpUnwrap_spec hx hl1 hl2
 have hz:=rpBn_ok hx hl1 hl2
 obtain ⟨hS2,hS3⟩:=rpSeal_len x
 unfold rpBn at hz
 generalize sealM x.text=S at *
 have ek:(1:Int)+(ct:Int) % ((S.length-1:Nat):Int)=((1+ct % (S.length-1):Nat):Int):=by push_cast; rfl
 have hkm:=Nat.mod_lt ct (y:=S.length-1) (by omega)
 obtain ⟨k,hk⟩:∃ k,1+ct % (S.length-1)=k:=⟨_,rfl⟩
 rw [hk] at ek
 have hk1:0<k:=by omega
 have hk2:k<S.length:=by omega
 have hc1:=fgCut_spec (i:=0) (j:=k) hz ⟨rfl,rfl⟩ hk1 (Nat.le_of_lt hk2)
 have hc2:=fgCut_spec (i:=k) (j:=S.length) hz ⟨rfl,rfl⟩ hk2 (Nat.le_refl _)
 have hok2:=Bn.sec_ok hz ⟨rfl,rfl⟩ ⟨hk1,hk2⟩
 have hok1:=Bn.fst_ok hz ⟨rfl,rfl⟩ ⟨hk1,hk2⟩
 have et:(S.drop k).take (S.length-k)=S.drop k:=List.take_of_length_le (by rw [List.length_drop]; exact Nat.le_refl _)
 dsimp only at hc1 hc2 hok1 hok2
 rw [List.drop_zero,Nat.sub_zero] at hc1;rw [et] at hc2
 have hw1:=rpWanted_spec hok1 (k:=3) (by omega)
 have hw2:=rpWanted_spec hok2 (k:=4) (by omega)
 have he1:=bnEncode_spec hok1
 have he2:=bnEncode_spec hok2
 have hd1:=bnDecode_spec hok1
 have hd2:=bnDecode_spec hok2
 have hal:=fun (ρ:PH) (bl cl:Nat)=>rsAll_spec (ρ:=ρ) (bl:=bl) (cl:=cl) hz ⟨rfl,rfl⟩ ⟨hk1,hk2⟩
 dsimp only at hw1 hw2 he1 he2 hd1 hd2 hal
 generalize sealM (Bn.text ⟨x.n,x.m,0,S.length,x.a,l,S.take k⟩)=T1 at *
 generalize sealM (Bn.text ⟨x.n,x.m,k,S.length,x.a,l,S.drop k⟩)=T2 at *
 have hfl:Flat [.agg #[int (x.n:Int),int (x.m:Int),int 7,int (k:Int),int (S.length:Int),int 1,int (x.a:Int),int (l:Int),int 1,int 4,.slice none 0 0,str (S.drop k)],.agg #[int (x.n:Int),int (x.m:Int),int 7,int ((0:Nat):Int),int (S.length:Int),int 1,int (x.a:Int),int (l:Int),int 1,int 4,.slice none 0 0,str (S.take k)]] [int (x.n:Int),int (x.m:Int),int 7,int (k:Int),int (S.length:Int),int 1,int (x.a:Int),int (l:Int),int 1,int 4,.slice none 0 0,str (S.drop k),int (x.n:Int),int (x.m:Int),int 7,int ((0:Nat):Int),int (S.length:Int),int 1,int (x.a:Int),int (l:Int),int 1,int 4,.slice none 0 0,str (S.take k)]:=Flat.agg (ws:=[int (x.n:Int),int (x.m:Int),int 7,int (k:Int),int (S.length:Int),int 1,int (x.a:Int),int (l:Int),int 1,int 4,.slice none 0 0,str (S.drop k)]) (Flat.agg (ws:=[int (x.n:Int),int (x.m:Int),int 7,int ((0:Nat):Int),int (S.length:Int),int 1,int (x.a:Int),int (l:Int),int 1,int 4,.slice none 0 0,str (S.take k)]) Flat.nil)
 have hf2:Flat [.agg #[int (x.n:Int),int (x.m:Int),int 7,int (k:Int),int (S.length:Int),int 1,int (x.a:Int),int (l:Int),int 1,int 4,.slice none 0 0,str (S.drop k)]] [int (x.n:Int),int (x.m:Int),int 7,int (k:Int),int (S.length:Int),int 1,int (x.a:Int),int (l:Int),int 1,int 4,.slice none 0 0,str (S.drop k)]:=Flat.agg (ws:=[int (x.n:Int),int (x.m:Int),int 7,int (k:Int),int (S.length:Int),int 1,int (x.a:Int),int (l:Int),int 1,int 4,.slice none 0 0,str (S.drop k)]) Flat.nil
 have hf1:Flat [.agg #[int (x.n:Int),int (x.m:Int),int 7,int ((0:Nat):Int),int (S.length:Int),int 1,int (x.a:Int),int (l:Int),int 1,int 4,.slice none 0 0,str (S.take k)]] [int (x.n:Int),int (x.m:Int),int 7,int ((0:Nat):Int),int (S.length:Int),int 1,int (x.a:Int),int (l:Int),int 1,int 4,.slice none 0 0,str (S.take k)]:=Flat.agg (ws:=[int (x.n:Int),int (x.m:Int),int 7,int ((0:Nat):Int),int (S.length:Int),int 1,int (x.a:Int),int (l:Int),int 1,int 4,.slice none 0 0,str (S.take k)]) Flat.nil
 refine spec_in (cap:=[]) Tryz.func3 rfl rfl Tryz.ntmps3 rfl envZ (fun N β=>?_)
 refine Aa ?_;refine A9 (BK rfl) rfl rfl rfl ?_;rintro _ _ ⟨b3,rfl,rfl⟩;refine AZ (ρ:=sng b3 (.cells #[int (x.k:Int),int (x.a:Int),int (x.c:Int),int (x.q:Int),int (x.o:Int),int (x.t:Int),int (x.n:Int),int (x.m:Int),int (x.r:Int)] 25 (0,0))) takeZ ?_
 have bx56_3:=rdB b3 25 [int (x.k:Int),int (x.a:Int),int (x.c:Int),int (x.q:Int),int (x.o:Int),int (x.t:Int),int (x.n:Int),int (x.m:Int),int (x.r:Int)]
 have c0:=rdC bx56_3 0
 have c1:=rdC bx56_3 1
 have c2:=rdC bx56_3 2
 have c3:=rdC bx56_3 3
 have c4:=rdC bx56_3 4
 have c5:=rdC bx56_3 5
 have c6:=rdC bx56_3 6
 have c7:=rdC bx56_3 7
 have c8:=rdC bx56_3 8
 have cw:=rdB b3 25 [int (x.k:Int),int (x.a:Int),int (x.c:Int),int (x.q:Int),int (x.o:Int),int (x.t:Int),int (x.n:Int),int (x.m:Int),int (x.r:Int)]
 refine Abt ?_
 focus ((refine AL hrf rfl rfl rdZ rfl rfl ?_; rintro _ rfl))
 refine A5 ?_;refine Aah ?_;refine BZ ?_;refine Aao ?_;refine Aat ?_;refine AB ?_;refine CS ?_;refine E9 ?_;refine CG ?_
 focus ((rw [el]))
 focus ((refine AL hwr rfl rfl rdZ rfl rfl ?_; rintro _ rfl))
 refine Aaq ?_;refine BG ?_; rintro _ _ ⟨b,rfl,rfl⟩;refine A4 ?_; rintro _ _ ⟨rfl,rfl⟩;refine Aam ?_;refine A5 ?_;refine Aah ?_
 focus ((refine' BB _ rfl rfl rfl _; rotate_left; (apply BW; exact rfl; exact rfl)))
 refine BM ?_;refine Aao ?_;refine Aak ?_
 focus ((refine BB (ET (c:=4) rfl rfl (by decide) rfl) rfl rfl rfl ?_))
 refine AF ?_;refine A6 ?_; rintro _ _ ⟨rfl,rfl⟩;refine Abb ?_;refine CS ?_;refine Aac ?_
 focus ((refine' BB _ rfl rfl rfl _; rotate_left; (apply BW; exact rfl; exact rfl)))
 refine CL ?_;refine E9 ?_;refine CG ?_;refine Aaa ?_;refine Aat ?_;refine AB ?_
 focus ((rw [ek]))
 focus ((refine AL hc1 rfl rfl rdZ rfl rfl ?_; rintro _ rfl))
 refine Aaq ?_;refine BG ?_; rintro _ _ ⟨b,rfl,rfl⟩;refine A4 ?_; rintro _ _ ⟨rfl,rfl⟩;refine Aaa ?_;refine Aat ?_;refine Aah ?_
 focus ((refine' BB _ rfl rfl rfl _; rotate_left; (apply BW; exact rfl; exact rfl)))
 focus ((refine AL hc2 rfl rfl rdZ rfl rfl ?_; rintro _ rfl))
 refine Aaq ?_;refine BG ?_; rintro _ _ ⟨b,rfl,rfl⟩;refine A4 ?_; rintro _ _ ⟨rfl,rfl⟩;refine Aam ?_;refine A5 ?_;refine Aan ?_;refine A5 ?_;refine Abo ?_;refine AR ?_
 focus ((refine AL hw1 rfl rfl rdZ rfl rfl ?_; rintro _ rfl))
 refine Abo ?_;refine AR ?_
 focus ((refine AL hw2 rfl rfl rdZ rfl rfl ?_; rintro _ rfl))
 refine Aao ?_;refine Aa ?_;refine Abt ?_;refine AR ?_
 focus ((refine' A9 _ rfl rfl rfl _; rotate_left; (focus (apply BY; exact rfl; exact rfl; exact rfl; exact rfl; exact rfl; exact oneZ; exact hfl; exact rfl)); rintro _ _ ⟨b94,rfl,rfl⟩))
 refine Acf ?_;refine AZ (ρ:=sng b94 _) takeZ ?_
 have g2:RdN (sng b94 (.cells #[int (x.n:Int),int (x.m:Int),int 7,int (k:Int),int (S.length:Int),int 1,int (x.a:Int),int (l:Int),int 1,int 4,.slice none 0 0,str (S.drop k),int (x.n:Int),int (x.m:Int),int 7,int ((0:Nat):Int),int (S.length:Int),int 1,int (x.a:Int),int (l:Int),int 1,int 4,.slice none 0 0,str (S.take k)] 34 (0,0))) b94 0 [int (x.n:Int),int (x.m:Int),int 7,int (k:Int),int (S.length:Int),int 1,int (x.a:Int),int (l:Int),int 1,int 4,.slice none 0 0,str (S.drop k)]:=(rdP_sng (k:=0) (xs:=[int (x.n:Int),int (x.m:Int),int 7,int (k:Int),int (S.length:Int),int 1,int (x.a:Int),int (l:Int),int 1,int 4,.slice none 0 0,str (S.drop k),int (x.n:Int),int (x.m:Int),int 7,int ((0:Nat):Int),int (S.length:Int),int 1,int (x.a:Int),int (l:Int),int 1,int 4,.slice none 0 0,str (S.take k)]) rfl).rd
 have g1:RdN (sng b94 (.cells #[int (x.n:Int),int (x.m:Int),int 7,int (k:Int),int (S.length:Int),int 1,int (x.a:Int),int (l:Int),int 1,int 4,.slice none 0 0,str (S.drop k),int (x.n:Int),int (x.m:Int),int 7,int ((0:Nat):Int),int (S.length:Int),int 1,int (x.a:Int),int (l:Int),int 1,int 4,.slice none 0 0,str (S.take k)] 34 (0,0))) b94 12 [int (x.n:Int),int (x.m:Int),int 7,int ((0:Nat):Int),int (S.length:Int),int 1,int (x.a:Int),int (l:Int),int 1,int 4,.slice none 0 0,str (S.take k)]:=(rdP_sng (k:=12) (xs:=[int (x.n:Int),int (x.m:Int),int 7,int (k:Int),int (S.length:Int),int 1,int (x.a:Int),int (l:Int),int 1,int 4,.slice none 0 0,str (S.drop k),int (x.n:Int),int (x.m:Int),int 7,int ((0:Nat):Int),int (S.length:Int),int 1,int (x.a:Int),int (l:Int),int 1,int 4,.slice none 0 0,str (S.take k)]) rfl).rd
 refine ED ?_
 refine BQ [3,6,94,95] (X:=Nat × Value × PH) (0,.slice none 0 0,emp) (fun y=>y.1≤2∧OwnS 34 12 y.2.1 y.1 (tpC [int (x.n:Int),int (x.m:Int),int 7,int (k:Int),int (S.length:Int),int 1,int (x.a:Int),int (l:Int),int 1,int 4,.slice none 0 0,str (S.drop k)] [int (x.n:Int),int (x.m:Int),int 7,int ((0:Nat):Int),int (S.length:Int),int 1,int (x.a:Int),int (l:Int),int 1,int 4,.slice none 0 0,str (S.take k)] y.1) y.2.2) (fun y=>[(96,int (y.1:Int)),(14,y.2.1)]) (fun y=>[y.2.2]) (fun y=>2-y.1) pickZ ⟨Nat.zero_le _,OwnS.nil _ _⟩ covZ selZ ?_
 rintro ⟨j,u,χ⟩ ⟨hj,hO⟩
 dsimp only at hj hO ⊢
 obtain ⟨p,c,rfl,hcp⟩:=hO.formC
 by_cases hj0:j=0
 ·subst hj0
  refine Ac ?_;refine Aa ?_;refine C7 ?_;refine AR ?_;refine BG ?_; rintro _ _ ⟨b,rfl,rfl⟩;refine A4 ?_; rintro _ _ ⟨rfl,rfl⟩;refine AE ?_;refine Aat ?_
  focus ((refine AL he2 rfl rfl rdZ rfl rfl ?_; rintro _ rfl))
  refine Aby ?_
  focus ((refine AL hd2 rfl rfl rdZ rfl rfl ?_; rintro _ rfl))
  refine Aaq ?_;refine BG ?_; rintro _ _ ⟨b,rfl,rfl⟩;refine A4 ?_; rintro _ _ ⟨rfl,rfl⟩;refine Aam ?_;refine A5 ?_;refine Aan ?_;refine Abs ?_;refine Ab7 ?_;refine AR ?_
  focus ((refine' A9 _ rfl rfl rfl _; rotate_left; (focus (apply BY; exact rfl; exact rfl; exact rfl; exact rfl; exact rfl; exact oneZ; exact hf2; exact rfl)); rintro _ _ ⟨b20,rfl,rfl⟩))
  refine A9 (CO (by_:=120) (s:=12) (m:=1) (news:=[int (x.n:Int),int (x.m:Int),int 7,int (k:Int),int (S.length:Int),int 1,int (x.a:Int),int (l:Int),int 1,int 4,.slice none 0 0,str (S.drop k)]) rfl rfl rfl rfl rfl rfl rfl hO takeZ (cells_own memZ) rfl oneZ (by decide) (by decide) (by decide)) rfl rfl rfl ?_
  rintro u1 _ ⟨χ1,hO1,rfl⟩
  obtain ⟨p1,c1,rfl,_⟩:=hO1.formC
  refine Aaa ?_;refine Abl ?_
  exact BJ (1,_,χ1) ⟨by dsimp only; omega,hO1⟩ (by dsimp only; omega) covZ selZ
 by_cases hj1:j=1
 ·subst hj1
  refine Ac ?_;refine Aa ?_;refine C7 ?_;refine AR ?_;refine BG ?_; rintro _ _ ⟨b,rfl,rfl⟩;refine A4 ?_; rintro _ _ ⟨rfl,rfl⟩;refine AE ?_;refine Aat ?_
  focus ((refine AL he1 rfl rfl rdZ rfl rfl ?_; rintro _ rfl))
  refine Aby ?_
  focus ((refine AL hd1 rfl rfl rdZ rfl rfl ?_; rintro _ rfl))
  refine Aaq ?_;refine BG ?_; rintro _ _ ⟨b,rfl,rfl⟩;refine A4 ?_; rintro _ _ ⟨rfl,rfl⟩;refine Aam ?_;refine A5 ?_;refine Aan ?_;refine Abs ?_;refine Ab7 ?_;refine AR ?_
  focus ((refine' A9 _ rfl rfl rfl _; rotate_left; (focus (apply BY; exact rfl; exact rfl; exact rfl; exact rfl; exact rfl; exact oneZ; exact hf1; exact rfl)); rintro _ _ ⟨b20,rfl,rfl⟩))
  refine A9 (CO (by_:=120) (s:=12) (m:=1) (news:=[int (x.n:Int),int (x.m:Int),int 7,int ((0:Nat):Int),int (S.length:Int),int 1,int (x.a:Int),int (l:Int),int 1,int 4,.slice none 0 0,str (S.take k)]) rfl rfl rfl rfl rfl rfl rfl hO takeZ (cells_own memZ) rfl oneZ (by decide) (by decide) (by decide)) rfl rfl rfl ?_
  rintro u1 _ ⟨χ1,hO1,rfl⟩
  obtain ⟨p1,c1,rfl,_⟩:=hO1.formC
  refine Aaa ?_;refine Abl ?_
  exact BJ (2,_,χ1) ⟨by dsimp only; omega,hO1⟩ (by dsimp only; omega) covZ selZ
 have hj2:j=2:=by omega
 subst hj2
 have hO:OwnS 34 12 (.slice p 2 c) 2 ([int (x.n:Int),int (x.m:Int),int 7,int (k:Int),int (S.length:Int),int 1,int (x.a:Int),int (l:Int),int 1,int 4,.slice none 0 0,str (S.drop k)] ++ [int (x.n:Int),int (x.m:Int),int 7,int ((0:Nat):Int),int (S.length:Int),int 1,int (x.a:Int),int (l:Int),int 1,int 4,.slice none 0 0,str (S.take k)]) χ:=hO
 obtain ⟨b14,c14,e14⟩:=hO.formP (by omega)
 obtain ⟨rfl,rfl⟩:p=some ⟨b14,0,none⟩∧c=c14:=by simpa using e14
 have hrd:=slAt_rd hO.at (by omega)
 have r2:=rdN_part (n:=0) (ys:=[int (x.n:Int),int (x.m:Int),int 7,int (k:Int),int (S.length:Int),int 1,int (x.a:Int),int (l:Int),int 1,int 4,.slice none 0 0,str (S.drop k)]) hrd rfl
 have r1:=rdN_part (n:=12) (ys:=[int (x.n:Int),int (x.m:Int),int 7,int ((0:Nat):Int),int (S.length:Int),int 1,int (x.a:Int),int (l:Int),int 1,int 4,.slice none 0 0,str (S.take k)]) hrd rfl
 have hal:=hal χ b14 c hcp r2 r1
 refine Abd ?_;refine Aab ?_;refine AL hal rfl rfl rdZ rfl rfl ?_;rintro _ rfl;refine Aaq ?_;refine BG ?_; rintro _ _ ⟨b,rfl,rfl⟩;refine A4 ?_; rintro _ _ ⟨rfl,rfl⟩;refine Aaa ?_;refine Aat ?_
 focus ((refine AL hun rfl rfl rdZ rfl rfl ?_; rintro _ rfl))
 refine Aaq ?_;refine BG ?_; rintro _ _ ⟨b,rfl,rfl⟩;refine A4 ?_; rintro _ _ ⟨rfl,rfl⟩;refine Aai ?_;refine CN ?_;refine Aan ?_;refine CN ?_;refine AX ?_;refine AB ?_;refine AR ?_;refine AR ?_
 focus ((refine' BB _ rfl rfl rfl _; rotate_left; (apply q_eqN [(x.k:Int),(x.a:Int),(x.c:Int),(x.q:Int),(x.o:Int),(x.t:Int),(x.n:Int),(x.m:Int),(x.r:Int)]; exact rfl; exact rfl; exact rfl; kernel_rfl; kernel_rfl; kernel_rfl)))
 refine AX ?_;refine AB ?_
 focus ((refine AL haw rfl rfl rdZ rfl rfl ?_; rintro _ rfl))
 refine Abv ?_;exact A2 ⟨rfl,rfl⟩
theorem reported_law (k a c q o t n m r:Int) (lt ct:Nat) (hlt:lt≤65535) (hct:ct≤255):Ans Tryz.prog (fv 3) [.agg #[int k,int a,int c,int q,int o,int t,int n,int m,int r],.int .u16 (lt:Int),.int .u8 (ct:Int)] [] (fun v=>v=.bool true):=by
 by_cases hb:rpI k a c q o t n m r
 ·obtain ⟨x,hx,rfl,rfl,rfl,rfl,rfl,rfl,rfl,rfl,rfl⟩:=rpI_rep hb
  by_cases hm:1099511625776<x.m
  ·exact tpLate hx hm lt ct
  ·exact tpGood hx (by omega) lt ct hlt hct
 ·exact tpBad hb lt ct
end Go.Proofs.YtjopknnkcnehmaaGreatDoor
namespace Go.Eng
open Go.ChangeShapes Go.WideShapes Go.RowKit
variable {P:Program} {W:World} {t:TypeId}
end Go.Eng
namespace Go.Proofs.YtjopknnkcnehmaaGreatDoor
open Go.Eng Go.Step
set_option maxRecDepth 100000
set_option maxHeartbeats 64000000
open Go.ChangeShapes Go.WideShapes Go.ChangeAt Go.RowKit
theorem Tryz.ownRp:ownKnob Tryz.prog.godebug=none:=by kernel_rfl
theorem Tryz.laidOutRp:laidOutB Tryz.prog=true:=by kernel_rfl
theorem rpArg_of {W:World} {r:Reach} {base:Nat} {v0:Value} (hv:Value.okWide Tryz.prog W r base 25 v0) (h:RdT Tryz.prog W 25 v0.cells.toList):∃ k a c q o t n m r:Int,v0=.agg #[int k,int a,int c,int q,int o,int t,int n,int m,int r]:=by
 obtain ⟨cs,rfl⟩:=okWide_agg Tryz.underlying25 hv
 obtain ⟨h1,hs⟩:=h.struct Tryz.underlying25
 have hc:Tryz.prog.cellsOf 25=9:=by kernel_rfl
 rw [hc] at h1
 obtain ⟨x⟩:=cs
 match x,h1 with
 | [c0,c1,c2,c3,c4,c5,c6,c7,c8],_ =>
  have k:Tryz.prog.cellsOf 3=1:=by kernel_rfl
  have kc:Tryz.prog.cellsOf 23=5:=by kernel_rfl
  have hct:RdT Tryz.prog W 23 ((([c0,c1,c2,c3,c4,c5,c6,c7,c8]:List Value).drop 1).take (Tryz.prog.cellsOf 23)):=hs 1 _ rfl
  rw [kc] at hct
  have hct:RdT Tryz.prog W 23 [c1,c2,c3,c4,c5]:=hct
  obtain ⟨x0,e0,_⟩:=(h.fld1 Tryz.underlying25 0 rfl rfl rfl k rfl).i64 Tryz.underlying3
  obtain ⟨x1,e1,_⟩:=(hct.fld1 Tryz.underlying23 0 rfl rfl rfl k rfl).i64 Tryz.underlying3
  obtain ⟨x2,e2,_⟩:=(hct.fld1 Tryz.underlying23 1 rfl rfl rfl k rfl).i64 Tryz.underlying3
  obtain ⟨x3,e3,_⟩:=(hct.fld1 Tryz.underlying23 2 rfl rfl rfl k rfl).i64 Tryz.underlying3
  obtain ⟨x4,e4,_⟩:=(hct.fld1 Tryz.underlying23 3 rfl rfl rfl k rfl).i64 Tryz.underlying3
  obtain ⟨x5,e5,_⟩:=(hct.fld1 Tryz.underlying23 4 rfl rfl rfl k rfl).i64 Tryz.underlying3
  obtain ⟨x6,e6,_⟩:=(h.fld1 Tryz.underlying25 2 rfl rfl rfl k rfl).i64 Tryz.underlying3
  obtain ⟨x7,e7,_⟩:=(h.fld1 Tryz.underlying25 3 rfl rfl rfl k rfl).i64 Tryz.underlying3
  obtain ⟨x8,e8,_⟩:=(h.fld1 Tryz.underlying25 4 rfl rfl rfl k rfl).i64 Tryz.underlying3
  simp at e0 e1 e2 e3 e4 e5 e6 e7 e8
  subst e0 e1 e2 e3 e4 e5 e6 e7 e8;exact ⟨x0,x1,x2,x3,x4,x5,x6,x7,x8,rfl⟩
theorem rpWord_of {W:World} {r:Reach} {base:Nat} {v0:Value} (hv:Value.okWide Tryz.prog W r base 26 v0) (h:RdT Tryz.prog W 26 v0.cells.toList):∃ n:Nat,v0=.int .u16 (n:Int)∧n≤65535:=by
 obtain ⟨n,rfl⟩:=okWide_int Tryz.underlying26 hv
 obtain ⟨m,e,hw⟩:=h.num Tryz.underlying26
 have e2:[Value.int .u16 n]=[Value.int .u16 m]:=e
 simp only [List.cons.injEq,and_true,Value.int.injEq,true_and] at e2;subst e2;simp only [Lit.wf,Bool.and_eq_true,decide_eq_true_eq] at hw
 have h0:0≤n:=hw.1
 have h1:n≤65535:=hw.2
 exact ⟨n.toNat,by rw [Int.toNat_of_nonneg h0],by omega⟩
theorem rpByte_of {W:World} {r:Reach} {base:Nat} {v0:Value} (hv:Value.okWide Tryz.prog W r base 5 v0) (h:RdT Tryz.prog W 5 v0.cells.toList):∃ n:Nat,v0=.int .u8 (n:Int)∧n≤255:=by
 obtain ⟨n,rfl⟩:=okWide_int Tryz.underlying5 hv
 obtain ⟨m,e,hw⟩:=h.num Tryz.underlying5
 have e2:[Value.int .u8 n]=[Value.int .u8 m]:=e
 simp only [List.cons.injEq,and_true,Value.int.injEq,true_and] at e2;subst e2;simp only [Lit.wf,Bool.and_eq_true,decide_eq_true_eq] at hw
 have h0:0≤n:=hw.1
 have h1:n≤255:=hw.2
 exact ⟨n.toNat,by rw [Int.toNat_of_nonneg h0],by omega⟩
set_option maxRecDepth 100000 in
theorem topReported_lifted (os:Os) (started:os.Started) (H:Type) (enc:TypeId × Value→H) :
  ReturnsInHanded {} Tryz.checked os 3 .any (fun w args=>(Rows.topReportedSpec.pre enc Tryz.prog Tryz.f3 [] false w args∧laidMetH Tryz.prog Rows.topReportedRow.laid w)∧sizedMet enc Tryz.prog Tryz.f3 (OpenSpec.ofChange Rows.topReportedSpec) false w args)
   (Rows.topReportedSpec.post enc Tryz.prog Tryz.f3 false true false false):=by
 refine returnsInHanded_of_change_and (C:=Tryz.checked) (X:=fun w _=>laidMetH Tryz.prog Rows.topReportedRow.laid w) (fun _ _ _ hh h=>h.of_heap hh) Tryz.ownRp started (by kernel_rfl) Tryz.func3
  (ChangeSpec.witness_shaped (enc:=enc) (C:=Tryz.checked) (os:=os) (X:=fun w _=>laidMetH Tryz.prog Rows.topReportedRow.laid w) false (World.laidAll Tryz.prog os Rows.topReportedRow.laid) #[.agg #[.int .i64 0,.int .i64 0,.int .i64 0,.int .i64 0,.int .i64 0,.int .i64 0,.int .i64 0,.int .i64 0,.int .i64 0],.int .u16 0,.int .u8 0] 8 (World.laidAll_os _ _ _)
   (World.shaped_of_ZipB (by kernel_rfl) (by kernel_rfl)) (by kernel_rfl) (by kernel_rfl) (by kernel_rfl)
   (by rw [MakeChecks.laidMetH_plain _ _ _ (by kernel_rfl)]; exact laidMet_laidAll _ (by kernel_rfl) (by kernel_rfl))) ?_
 intro W base args ds gs before hval0 hW _ _ _ _
 have hval:∀ (j:Nat) t v,Tryz.f3.params[j]?=some t→args[j]?=some v→Value.okWide Tryz.prog W .any base t v:=hval0
 have hW':=hW
 obtain ⟨p,q,hA0,hV,rfl,hfz,hnd⟩:=hW
 have hA:DataW.TrodAll enc Tryz.prog W 0 (fun _=>true) true Tryz.f3.params.toList args.toList ds p:=hA0
 rw [Tryz.params3] at hA hval
 obtain ⟨v0,vs0,d0,ds0,p0,q0,hargs,rfl,rfl,h0,r0⟩:=trodAll_cons hA
 obtain ⟨v1,vs1,d1,ds1,p1,q1,rfl,rfl,rfl,h1,r1⟩:=trodAll_cons r0
 obtain ⟨v2,vs2,d2,ds2,p2,q2,rfl,rfl,rfl,h2,r2⟩:=trodAll_cons r1
 obtain ⟨rfl,rfl,rfl⟩:=trodAll_nil r2
 obtain rfl:args = #[v0,v1,v2]:=by cases args; simp_all
 obtain ⟨rfl,rfl⟩:=trodVars_none hV
 have lt0:∀ x∈p0,x.block<W.heap.size:=by obtain ⟨m,hm⟩:=h0; exact DataW.trod_lt m _ _ _ hm
 have lt1:∀ x∈p1,x.block<W.heap.size:=by obtain ⟨m,hm⟩:=h1; exact DataW.trod_lt m _ _ _ hm
 have lt2:∀ x∈p2,x.block<W.heap.size:=by obtain ⟨m,hm⟩:=h2; exact DataW.trod_lt m _ _ _ hm
 have hlaw:Ans Tryz.prog (fv 3) [v0,v1,v2] [heapPH W] (fun v=>v=.bool true):=by
  obtain ⟨k,a,c,q,o,t,n,m,r,rfl⟩:=rpArg_of (hval 0 _ v0 rfl rfl) (RdT.of h0)
  obtain ⟨lt,rfl,hlt⟩:=rpWord_of (hval 1 _ v1 rfl rfl) (RdT.of h1)
  obtain ⟨ct,rfl,hct⟩:=rpByte_of (hval 2 _ v2 rfl rfl) (RdT.of h2)
  exact (reported_law k a c q o t n m r lt ct hlt hct).rsub (fun _ h=>absurd h List.not_mem_nil)
 refine (law_calls Tryz.func3 rfl rfl hlaw).mono fun e W' ⟨he,bel⟩=>?_
 subst he
 exact ⟨_,rfl,_,_,_,[],_,[],hW',trodAll_mk1 (shut_bool Tryz.underlying4 _),(trodAll_cons_mk (Below.trod Tryz.laidOutRp (by kernel_rfl) (of_decide_eq_true (by kernel_rfl)) h0 bel lt0) (trodAll_cons_mk (Below.trod Tryz.laidOutRp (by kernel_rfl) (of_decide_eq_true (by kernel_rfl)) h1 bel lt1) (trodAll_cons_mk (Below.trod Tryz.laidOutRp (by kernel_rfl) (of_decide_eq_true (by kernel_rfl)) h2 bel lt2) trodAll_mk0))),rfl,bel.frame _,fun h=>by cases h⟩
end Go.Proofs.YtjopknnkcnehmaaGreatDoor
namespace Go.Proofs.YtjopknnkcnehmaaGreatDoor
open Go.Eng Go.Step
set_option maxRecDepth 100000
set_option maxHeartbeats 64000000
open Go.ChangeShapes Go.WideShapes Go.ChangeAt Go.RowKit

theorem reported_inPlace : Rows.topReportedRow.inPlace = Tryz.prog.inPlace 3 := by kernel_rfl
theorem reported_unfollowed : Tryz.prog.unfollowed 3 = true := by kernel_rfl
theorem reported_recurses : Tryz.prog.recurses 3 = true := by kernel_rfl
theorem reported_named : Rows.topReportedRow.named = Tryz.prog.varsNamed 3 := by kernel_rfl
theorem reported_func : Tryz.prog.funcNamed "mailboat/mailboattop.TopReported" = some 3 := by kernel_rfl
theorem reported_joined : joinedFacts Tryz.prog 3 Tryz.f3 Rows.topReportedSpec Rows.topReportedRow = true := by
 unfold joinedFacts;rw [← reported_inPlace, reported_unfollowed, reported_recurses, ← reported_named]
 kernel_rfl
theorem topReported_holds : Rows.TopReportedSaid :=
 OpenClaim.holds_of_wide 3 Tryz.f3 rfl rfl rfl rfl rfl rfl rfl ⟨rfl, rfl, rfl, rfl, rfl⟩ rfl rfl rfl rfl rfl reported_func Tryz.func3 reported_joined
  (of_decide_eq_true (by kernel_rfl)) (by unfold Func.isWrapper; first | (rw [if_pos (by decide +kernel)]; kernel_rfl) | (rw [if_neg (by decide +kernel)]; exact ⟨rfl, rfl⟩))
  (fun os started H enc _ => topReported_lifted os started H enc)
theorem topReportedCard_holds : Rows.TopReportedCardSaid :=
 Claim7.holds_tied_plain_at .later [] [.data, .pinned] true (true, "0665ea51c808aab136ceb71a67e8fe85095133da563ad547a39e4e5f03c23f9d") false topReported_holds (fun _ h => by cases h) (by as_aux_lemma => kernel_rfl) (fun _ h => by cases h) topReported_row_tie rfl ⟨rfl, rfl⟩ (by as_aux_lemma => kernel_rfl) rfl
  (fun f fn hf hfn => by
   obtain rfl : f = 3 := Option.some.inj (reported_func.symm.trans hf) |>.symm
   obtain rfl : fn = Tryz.f3 := (Option.some.inj (Tryz.func3.symm.trans hfn)).symm
   exact ⟨by as_aux_lemma => kernel_rfl, fun j t ht => by
    rw [Tryz.params3] at ht
    have hm : t ∈ [25, 26, 5] := by simpa using Array.mem_of_getElem? ht
    have hall : ([25, 26, 5].all fun u => !Tryz.prog.wantsStandIn u) = true := by kernel_rfl
    exact (show Tryz.prog.wantsStandIn t = false by simpa using List.all_eq_true.1 hall t hm)⟩)
  (by as_aux_lemma => kernel_rfl)
end Go.Proofs.YtjopknnkcnehmaaGreatDoor
