/- Texts of this proof, one after the other; no conditions. -/
import Derived.Test.YtnijkofdlepfjaaGreatWA
import Derived.Test.YtnijkofdlepfjaaGreatWB5
import Derived.Test.YtnijkofdlepfjaaGreatWB3
import Derived.Test.YtnijkofdlepfjaaGreatWB7
import Derived.Test.YtnijkofdlepfjaaGreatWB4
import Derived.Test.YtnijkofdlepfjaaGreatWB6
set_option linter.all false
namespace Go.Proofs.YtnijkofdlepfjaaGreat
open Go.Eng Go.Step Go.Sym
set_option maxRecDepth 100000
set_option maxHeartbeats 64000000
theorem rV (fn:Value) (P A M B Q:List Bk) (n k0 b c:Nat) (σ:PH) (hA:A.length=n) (hB:B.length=n) (hO:OwA gX 4 118 b c k0 (P ++ A ++ M ++ B ++ Q) σ) (hl:k0<=1000000) (i j:Nat) (hi:P.length=i) (hj:i+n+M.length=j) :
  Eng.Spec Tryz.prog (fv 298) [.slice (some ⟨b,0,none⟩) k0 c,int (i:Int),int (j:Int),int (n:Int),fn] [] [σ] (fun r H'=>r=.tuple #[]/\∃ σ',OwA gX 4 118 b c k0 (P ++ B ++ M ++ A ++ Q) σ'/\H'=[σ']):=by
 have hlen:=hO.1
 have hln:P.length+n+M.length+n+Q.length=k0:=by rw [← hlen]; simp only [aB]; omega
 refine A8 Tryz.func298 Tryz.ntmps298 fun N β=>?_
 rw [← aJ0] at hO;refine Aam ?_;refine AM ?_
 refine BE [0,1,2,3] (X:=Nat × PH) (0,σ) (fun z=>z.1<=n/\OwA gX 4 118 b c k0 (swK P A M B Q z.1) z.2) (fun z=>[(10,int (z.1:Int))]) (fun z=>[z.2]) (fun z=>n-z.1) fT ⟨by dsimp only; omega,hO⟩ fP fK ?_
 rintro ⟨k,σ1⟩ ⟨hk,hO1⟩
 dsimp only at hk hO1 ⊢
 by_cases hlt:k<n
 rotate_left
 ·have hke:k=n:=by omega
  rw [hke,aNn hA hB] at hO1;refine Acx ?_;exact BJ (gY rfl) fQ fK ⟨rfl,σ1,hO1,rfl⟩
 obtain ⟨x,y,F,M2,G,e1,e2,f1,f2⟩:=aJ1 (P:=P) (M:=M) (Q:=Q) hA hB hlt
 rw [e1] at hO1
 have r1:=hO1.row gF (i:=i+k) (x:=x) (aTg (by omega))
 have r2:=hO1.row gF (i:=j+k) (x:=y) (aTh (by omega))
 refine Aav ?_;refine Acp ?_
 refine A9 (.q 0 (.q 1 (.q 2 (.q 3 (.p 4 (.p 5 (.p 6 (.p 7 (.q 8 (.q 9 (.q 10 (.q 11 (.q 12 (.q 13 (.q 14 (.q 15 (.q 16 (.q 17 (.q 18 (.q 19 (.q 20 (.l 21 .b (.q 22 (.l 23 .b .nil)))))))))))))))))))))))) [] rfl (by kernel_rfl) fK ?_
 refine Adc ?_;refine DP ?_;refine CG ?_;refine CG ?_;refine CG ?_;refine GR ?_;refine Adc ?_;refine DP ?_;refine Abl ?_;refine Adc ?_;refine DP ?_;refine Abl ?_;refine BH ?_
 rw [show (i:Int)+(k:Int)=((i+k:Nat):Int) from by omega,show (j:Int)+(k:Int)=((j+k:Nat):Int) from by omega]
 skip
 refine BZ ?_;refine' D7 rfl _ rfl rfl _ _
 rotate_left
 ·exact CO gF (a:=y) (i+k) hO1 rfl rfl rfl (by unfold gX; exact iF) rfl fL (by omega)
 ·rintro _ _ ⟨_,_,_,rfl⟩ w hw; exact hw.sel fK
 rintro _ _ ⟨rfl,σ2,hO2,rfl⟩;refine Ada ?_;refine' D7 rfl _ rfl rfl _ _
 rotate_left
 ·exact CO gF (a:=x) (j+k) hO2 rfl rfl rfl (by unfold gX; exact iF) rfl fL (by omega)
 ·rintro _ _ ⟨_,_,_,rfl⟩ w hw; exact hw.sel fK
 rintro _ _ ⟨rfl,σ3,hO3,rfl⟩;refine BC ?_;refine Ack ?_
 refine AZ (k+1,σ3) ⟨by dsimp only; omega,?_⟩ (by dsimp only; omega) fP fK
 dsimp only
 rw [aTj (by omega) (by omega)] at hO3
 rw [e2]; exact hO3
theorem aGo (fn:Value) (P A B Q:List Bk) (k0 b c a m bb:Nat) (σ:PH) (hO:OwA gX 4 118 b c k0 (P ++ A ++ B ++ Q) σ) (hl:k0<=1000000) (ha:P.length=a) (hm:a+A.length=m) (hb:m+B.length=bb) (h1:0<A.length) (h2:0<B.length) :
  Eng.Spec Tryz.prog (fv 281) [.slice (some ⟨b,0,none⟩) k0 c,int (a:Int),int (m:Int),int (bb:Int),fn] [] [σ] (fun r H'=>r=.tuple #[]/\∃ σ',OwA gX 4 118 b c k0 (P ++ B ++ A ++ Q) σ'/\H'=[σ']):=by
 have hI0:=tA.start (Q:=Q) ha hm hb h1 h2
 have hln:a+A.length+B.length+Q.length=k0:=by rw [← hO.1]; simp only [aB]; omega
 generalize P ++ A ++ B ++ Q=D0 at hO hI0
 generalize P ++ B ++ A ++ Q=F at hI0 ⊢
 refine A8 Tryz.func281 Tryz.ntmps281 fun N β=>?_
 refine Aaw ?_;refine CC ?_;refine Adz ?_;refine CC ?_;refine Aaa ?_;refine Aap ?_
 rw [show (m:Int)-(a:Int)=((m-a:Nat):Int) from by omega,show (bb:Int)-(m:Int)=((bb-m:Nat):Int) from by omega]
 refine BE [0,1,2,3,4] (X:=(Nat × Nat) × (List Bk × PH)) ((m-a,bb-m),(D0,σ)) (fun z=>tA m F z.2.1 z.1.1 z.1.2/\OwA gX 4 118 b c k0 z.2.1 z.2.2) (fun z=>[(10,int (z.1.1:Int)),(11,int (z.1.2:Int))]) (fun z=>[z.2.2]) (fun z=>z.1.1+z.1.2) fT ⟨hI0,hO⟩ fP fK ?_
 rintro ⟨⟨i,j⟩,⟨D1,σ1⟩⟩ ⟨hI,hO1⟩
 dsimp only at hI hO1 ⊢
 have hle:=hI.le
 have hpi:=hI.pi
 have hpj:=hI.pj
 have hDl:=hO1.1
 by_cases hij:i=j
 ·subst hij
  obtain ⟨P1,A1,B1,Q1,rfl,l1,l2,l3,l4,rfl⟩:=hI.last
  refine Aav ?_;refine BN ?_;refine Aa7 ?_;refine AA ?_;refine Abm ?_;refine CC ?_;refine Abm ?_
  rw [show (m:Int)-(i:Int)=((m-i:Nat):Int) from by omega]
  skip
  refine BG (rV fn P1 A1 [] B1 Q1 i k0 b c σ1 l2 l3 hO1 hl (m-i) m l1 (by simp only [cW]; omega)) rfl rfl fU rdZ rfl rfl ?_
  rintro _ _ ⟨rfl,σ2,hO2,rfl⟩;refine AE ?_;exact BJ (gY rfl) fQ fK ⟨rfl,σ2,hO2,rfl⟩
 by_cases hgt:j<i
 ·obtain ⟨P1,A1,M1,B1,Q1,rfl,l1,l2,l3,l4,hI2⟩:=hI.left hgt
  refine Aav ?_;refine Adu ?_;refine Acr ?_;refine Aaw ?_;refine Adt ?_;refine Acs ?_;refine CC ?_;refine Abm ?_
  rw [show (m:Int)-(i:Int)=((m-i:Nat):Int) from by omega]
  skip
  refine BG (rV fn P1 A1 M1 B1 Q1 j k0 b c σ1 l2 l3 hO1 hl (m-i) m l1 (by omega)) rfl rfl fU rdZ rfl rfl ?_
  rintro _ _ ⟨rfl,σ2,hO2,rfl⟩;refine AE ?_;refine Abu ?_;refine CC ?_;refine Acq ?_
  rw [show (i:Int)-(j:Int)=((i-j:Nat):Int) from by omega]
  exact AZ ((i-j,j),(_,σ2)) ⟨hI2,hO2⟩ (by dsimp only; omega) fP fK
 ·obtain ⟨P1,A1,M1,B1,Q1,rfl,l1,l2,l3,l4,hI2⟩:=hI.right (by omega)
  refine Aav ?_;refine Adu ?_;refine Acr ?_;refine Aaw ?_;refine B7 ?_;refine Aae ?_;refine Acs ?_;refine CC ?_;refine Aal ?_;refine CF ?_;refine AB ?_;refine CC ?_;refine Aal ?_
  rw [show (m:Int)-(i:Int)=((m-i:Nat):Int) from by omega,show (m:Int)+(j:Int)-(i:Int)=((m+j-i:Nat):Int) from by omega]
  skip
  refine BG (rV fn P1 A1 M1 B1 Q1 i k0 b c σ1 l2 l3 hO1 hl (m-i) (m+j-i) l1 (by omega)) rfl rfl fU rdZ rfl rfl ?_
  rintro _ _ ⟨rfl,σ2,hO2,rfl⟩;refine AE ?_;refine Abu ?_;refine CC ?_;refine Acq ?_
  rw [show (j:Int)-(i:Int)=((j-i:Nat):Int) from by omega]
  exact AZ ((i,j-i),(_,σ2)) ⟨hI2,hO2⟩ (by dsimp only; omega) fP fK
theorem wD {cf:Bk->Bk->Int} (hc:Cmp cf) (fn:Value) (hcf:∀ x y:Bk,Ans Tryz.prog fn [.agg #[int x.c,int x.a,int x.b,int x.k],.agg #[int y.c,int y.a,int y.b,int y.k]] [] (fun r=>r=int (cf x y))) (P Y Q:List Bk) (k0 b c a bb:Nat) (σ:PH) (hO:OwA gX 4 118 b c k0 (P ++ Y ++ Q) σ) (hl:k0<=1000000) (ha:P.length=a) (hb:a+Y.length=bb) :
  Eng.Spec Tryz.prog (fv 258) [.slice (some ⟨b,0,none⟩) k0 c,int (a:Int),int (bb:Int),fn] [] [σ] (fun r H'=>r=.tuple #[]/\∃ Y' σ',Y'.Perm Y/\Srt cf Y'/\OwA gX 4 118 b c k0 (P ++ Y' ++ Q) σ'/\H'=[σ']):=by
 have hln:a+Y.length+Q.length=k0:=by rw [← hO.1]; simp only [aB]; omega
 refine A8 Tryz.func258 Tryz.ntmps258 fun N β=>?_
 cases Y with
 | nil =>
  have hab:a=bb:=by simpa using hb
  subst hab;refine Aab ?_;refine Abz ?_;refine AM ?_
  refine BE [0,1,2,3] (X:=Unit) () (fun _=>True) (fun _=>[(8,int ((a+1:Nat):Int))]) (fun _=>[σ]) (fun _=>0) fT trivial fP fK ?_
  rintro _ _;refine Acx ?_;exact BJ (gY rfl) fQ fK ⟨rfl,[],σ,List.Perm.refl _,.nil,hO,rfl⟩
 | cons y0 Y0 =>
 rw [aS] at hb hln;refine Aab ?_;refine Abz ?_;refine AM ?_
 refine BE [0,1,2,3] (X:=(Nat × (List Bk × List Bk)) × PH) ((a+1,([y0],Y0)),σ) (fun z=>z.1.1=a+z.1.2.1.length/\0<z.1.2.1.length/\(z.1.2.1 ++ z.1.2.2).Perm (y0::Y0)/\Srt cf z.1.2.1/\OwA gX 4 118 b c k0 (P ++ z.1.2.1 ++ z.1.2.2 ++ Q) z.2) (fun z=>[(8,int (z.1.1:Int))]) (fun z=>[z.2]) (fun z=>z.1.2.2.length) fT ⟨rfl,by simp,by simp,by simp,hO.cast (by simp)⟩ fP fK ?_
 rintro ⟨⟨i,⟨S,R⟩⟩,σ1⟩ ⟨hi,hS0,hp,hS,hO1⟩
 dsimp only at hi hS0 hp hS hO1 ⊢
 have hpl:=hp.length_eq
 rw [aB,aS] at hpl
 cases R with
 | nil =>
  rw [cW] at hpl;refine Acx ?_
  exact BJ (gY rfl) fQ fK ⟨rfl,S,σ1,by simpa using hp,hS,hO1.cast (by simp),rfl⟩
 | cons e R =>
 rw [aS] at hpl;refine Aav ?_;refine Acp ?_;refine Aa5 ?_;refine AM ?_
 refine BE [0,1,2,3,8] (X:=(Nat × (List Bk × List Bk)) × PH) ((i,(S,[])),σ1) (fun z=>z.1.1=a+z.1.2.1.length/\z.1.2.1 ++ z.1.2.2=S/\(∀ y,z.1.2.2.head?=some y->cf e y<=0)/\OwA gX 4 118 b c k0 (P ++ z.1.2.1 ++ e::z.1.2.2 ++ R ++ Q) z.2) (fun z=>[(9,int (z.1.1:Int))]) (fun z=>[z.2]) (fun z=>z.1.2.1.length) fT ⟨hi,by simp,by simp,hO1.cast (by simp)⟩ fP fK ?_
 rintro ⟨⟨j,⟨A,B⟩⟩,σ2⟩ ⟨hj,hAB,hB,hO2⟩
 dsimp only at hj hAB hB hO2 ⊢
 have hABl:A.length+B.length=S.length:=by rw [← hAB,aB]
 rcases List.eq_nil_or_concat A with rfl|⟨A1,z,rfl⟩
 ·rw [cW] at hj hABl
  refine AC ?_;refine AC ?_
  refine A9 P4Z [] rfl (by kernel_rfl) fK ?_
  refine Aa0 ?_;refine DO ?_;refine Adq ?_;refine Abw ?_;refine BS ?_;refine BC ?_;refine Aaz ?_;refine Ack ?_
  refine AZ ((i+1,(e::B,R)),σ2) ⟨?_,by simp,?_,?_,hO2.cast (by simp)⟩ (by dsimp only; rw [aS]; omega) fP fK
  ·dsimp only; rw [aS]; omega
  ·dsimp only
   rw [← hAB] at hp;refine List.Perm.trans ?_ hp;simp only [aH,aG];exact List.perm_middle.symm
  ·dsimp only
   have:=wA hc (A:=[]) (B:=B) (e:=e) (by rw [hAB]; exact hS) (by simp) hB
   simpa using this
 ·rw [List.concat_eq_append] at hAB hj hO2 hABl ⊢
  rw [aB,bM] at hj hABl
  obtain ⟨jj,rfl⟩:∃ jj,j=jj+1:=⟨a+A1.length,by omega⟩
  have hO3:OwA gX 4 118 b c k0 ((P ++ A1) ++ z::e::(B ++ R ++ Q)) σ2:=hO2.cast (by simp)
  have r1:=hO3.row gF (i:=jj+1) (x:=e) (xZ (by rw [aB]; omega))
  have r2:=hO3.row gF (i:=jj+1-1) (x:=z) (xY (by rw [aB]; omega))
  have hcc:=hcf e z
  obtain ⟨cv,hcv⟩:∃ cv,cf e z=cv:=⟨_,rfl⟩
  rw [hcv] at hcc;refine AC ?_;refine AC ?_
  refine A9 (.q 0 (.q 1 (.q 2 (.q 3 (.q 4 (.q 5 (.q 6 (.q 7 (.q 8 (.q 9 (.q 10 (.q 11 (.q 12 (.q 13 (.l 14 .e (.q 15 (.q 16 .nil))))))))))))))))) [] rfl (by kernel_rfl) fK ?_
  refine Aa0 ?_;refine FE ?_;refine Aa0 ?_;refine Acl ?_;refine Adk ?_;refine Abl ?_;refine BZ (BQ rfl hcc rfl rfl rdZ rfl rfl ?_);rintro _ rfl
  by_cases hlt:cv<0
  ·refine D8 ?_
   refine BU ?_;refine BC ?_;refine Aau ?_
   refine A9 (.q 0 (.q 1 (.p 2 (.p 3 (.p 4 (.q 5 (.q 6 (.q 7 (.q 8 (.q 9 (.q 10 (.q 11 (.q 12 (.q 13 (.q 14 (.l 15 .b (.q 16 (.l 17 .b .nil)))))))))))))))))) [] rfl (by kernel_rfl) fK ?_
   refine Aa0 ?_;refine CG ?_;refine CG ?_;refine DV ?_;refine Adk ?_;refine Adi ?_;refine Ada ?_;refine' D7 rfl _ rfl rfl _ _
   rotate_left
   ·exact CO gF (a:=z) (jj+1) hO3 rfl rfl rfl (by unfold gX; exact iF) rfl fL (by omega)
   ·rintro _ _ ⟨_,_,_,rfl⟩ w hw; exact hw.sel fK
   rintro _ _ ⟨rfl,σ3,hO4,rfl⟩;refine Ada ?_;refine' D7 rfl _ rfl rfl _ _
   rotate_left
   ·exact CO gF (a:=e) (jj+1-1) hO4 rfl rfl rfl (by unfold gX; exact iF) rfl fL (by omega)
   ·rintro _ _ ⟨_,_,_,rfl⟩ w hw; exact hw.sel fK
   rintro _ _ ⟨rfl,σ4,hO5,rfl⟩;refine BC ?_;refine Aay ?_;refine AB ?_;refine B6 ?_;refine Aaa ?_
   rw [aGm (by rw [aB]; omega) (by rw [aB]; omega)] at hO5
   refine AZ ((jj,(A1,z::B)),σ4) ⟨by dsimp only; omega,by dsimp only; rw [← hAB]; simp,?_,hO5.cast (by simp)⟩ (by dsimp only; rw [aB,bM]; omega) fP fK
   dsimp only
   intro y hy
   simp only [List.head?_cons,aD] at hy;subst hy;omega
  ·refine C4 ?_
   refine BU ?_;refine BC ?_;refine Aaz ?_;refine Ack ?_
   have hze:cf z e<=0:=hc.tot (by omega)
   refine AZ ((i+1,(A1 ++ [z] ++ e::B,R)),σ2) ⟨?_,by dsimp only; simp only [aB,aS,cW]; omega,?_,?_,hO2.cast (by simp)⟩ (by dsimp only; rw [aS]; omega) fP fK
   ·dsimp only; simp only [aB,aS,cW]; omega
   ·dsimp only
    rw [← hAB] at hp;refine List.Perm.trans ?_ hp
    have:(A1 ++ [z] ++ e::(B ++ R)).Perm (e::(A1 ++ [z] ++ (B ++ R))):=eT
    simp only [aR,aG,aH] at this ⊢;refine this.trans ?_
    have h2:(e::(A1 ++ z::(B ++ R))).Perm (A1 ++ z::(B ++ e::R)):=by
     have h3:(A1 ++ z::B ++ e::R).Perm (e::(A1 ++ z::B ++ R)):=eT
     simpa using h3.symm
    exact h2
   ·dsimp only
    refine wA hc (by rw [hAB]; exact hS) (fun x hx=>?_) hB
    simp at hx
    subst hx;exact hze
theorem aCj {cf:Bk->Bk->Int} (hc:Cmp cf) (fn:Value) (hcf:∀ x y:Bk,Ans Tryz.prog fn [.agg #[int x.c,int x.a,int x.b,int x.k],.agg #[int y.c,int y.a,int y.b,int y.k]] [] (fun r=>r=int (cf x y))) (k0 b c:Nat) (hl:k0<=1000000):∀ (d:Nat) (P U V Q:List Bk) (a m bb:Nat) (σ:PH),U.length+V.length<=d->OwA gX 4 118 b c k0 (P ++ U ++ V ++ Q) σ->P.length=a->a+U.length=m->m+V.length=bb->0<U.length->0<V.length->Srt cf U->Srt cf V ->
  Eng.Spec Tryz.prog (fv 259) [.slice (some ⟨b,0,none⟩) k0 c,int (a:Int),int (m:Int),int (bb:Int),fn] [] [σ] (fun r H'=>r=.tuple #[]/\∃ W σ',W.Perm (U ++ V)/\Srt cf W/\OwA gX 4 118 b c k0 (P ++ W ++ Q) σ'/\H'=[σ']):=by
 intro d
 induction d with
 | zero=>intro P U V Q a m bb σ hd _ _ _ _ h1; omega
 | succ d ih =>
 intro P U V Q a m bb σ hd hO ha hm hb h1 h2 hU hV
 have hln:bb+Q.length=k0:=by rw [← hO.1]; simp only [aB]; omega
 refine A8 Tryz.func259 Tryz.ntmps259 fun N β=>?_
 by_cases hu1:U.length=1
 ·clear ih
  obtain ⟨u,rfl⟩:=eY.1 hu1
  rw [bM] at hm hd;subst hm
  have ra:=hO.row gF (i:=a) (x:=u) (aPg ha (aK _) (by simp))
  refine Ad8 ?_;refine CJ ?_;refine Acu ?_;refine Aa5 ?_;refine Aap ?_
  refine BE [0,1,2,3,4] (X:=Nat × Nat) (a+1,bb) (fun z=>a+1<=z.1/\z.1<=z.2/\z.2<=bb/\(∀ y,a+1<z.1->V[z.1-1-(a+1)]?=some y->cf y u<=0)/\(∀ y,z.2<bb->V[z.2-(a+1)]?=some y->cf u y<=0)) (fun z=>[(10,int (z.1:Int)),(11,int (z.2:Int))]) (fun _=>[σ]) (fun z=>z.2-z.1) fT ⟨aK _,by dsimp only; omega,aK _,fun y h=>absurd h (dS _),fun y h=>absurd h (dS _)⟩ fP fK ?_
  rintro ⟨i,j⟩ ⟨g1,g2,g3,g4,g5⟩
  dsimp only at g1 g2 g3 g4 g5 ⊢
  by_cases hlt:i<j
  ·obtain ⟨h,hh⟩:∃ h,(i+j) / 2=h:=⟨_,rfl⟩
   obtain ⟨y,hy⟩:∃ y,V[h-(a+1)]?=some y:=⟨_,aA (by omega)⟩
   have rh:=hO.row gF (i:=h) (x:=y) (aPh (m:=a+1) (by rw [bM]; omega) (by omega) hy)
   have hcc:=hcf y u
   obtain ⟨cv,hcv⟩:∃ cv,cf y u=cv:=⟨_,rfl⟩
   rw [hcv] at hcc;refine Aeu ?_;refine Adh ?_
   rw [show (i:Int)+(j:Int)=((i+j:Nat):Int) from by omega]
   focus ((refine' CN _ rfl rfl rfl _; rotate_left; (apply E3; exact rfl; exact rfl; exact rfl; omega)))
   focus ((refine' CN _ rfl rfl rfl _; rotate_left; (apply DE; exact rfl; exact rfl; decide)))
   refine DD ?_;refine Aba ?_;rw [hh]
   refine A9 (.q 0 (.q 1 (.q 2 (.q 3 (.q 4 (.q 5 (.q 6 (.q 7 (.q 8 (.l 9 .e (.q 10 .nil))))))))))) [] rfl (by kernel_rfl) fK ?_
   refine Adc ?_;refine Adi ?_;refine BZ (BQ rfl hcc rfl rfl rdZ rfl rfl ?_);rintro _ rfl
   by_cases hcl:cv<0
   ·refine D8 ?_
    refine Ad6 ?_;refine Ab8 ?_;refine BB ?_
    refine AZ (h+1,j) ⟨by dsimp only; omega,by dsimp only; omega,g3,fun z hz e=>?_,g5⟩ (by dsimp only; omega) fP fK
    dsimp only at hz e
    rw [show h+1-1-(a+1)=h-(a+1) by omega,hy] at e
    obtain rfl:=Option.some.inj e
    omega
   ·refine C4 ?_
    refine Aby ?_;refine Ad ?_;refine Acq ?_
    refine AZ (i,h) ⟨g1,by dsimp only; omega,by dsimp only; omega,g4,fun z hz e=>?_⟩ (by dsimp only; omega) fP fK
    dsimp only at hz e
    rw [hy] at e
    obtain rfl:=Option.some.inj e
    exact hc.tot (by omega)
  have hij:i=j:=by omega
  subst hij;refine Acx ?_;refine Aag ?_;refine Aaa ?_;refine AM ?_
  have hO0:OwA gX 4 118 b c k0 (shF P u V Q 0) σ:=hO.cast (by simp [shF])
  refine BE [0,1,2,3,4,10] (X:=Nat × PH) (0,σ) (fun z=>z.1<=i-(a+1)/\OwA gX 4 118 b c k0 (shF P u V Q z.1) z.2) (fun z=>[(13,int ((a+z.1:Nat):Int))]) (fun z=>[z.2]) (fun z=>i-(a+1)-z.1) fT ⟨cA _,hO0⟩ fP fK ?_
  rintro ⟨k,σ1⟩ ⟨hk,hO1⟩
  dsimp only at hk hO1 ⊢
  by_cases hlt2:k<i-(a+1)
  ·obtain ⟨y,F,G,e1,e2,e3⟩:=wB (P:=P) (u:=u) (Q:=Q) (show k<V.length by omega)
   rw [e1] at hO1
   have r1:=hO1.row gF (i:=a+k) (x:=u) (xY (by omega))
   have r2:=hO1.row gF (i:=a+k+1) (x:=y) (xZ (by omega))
   refine Aav ?_;refine B6 ?_;refine Acp ?_
   refine A9 (.q 0 (.q 1 (.p 2 (.p 3 (.p 4 (.q 5 (.q 6 (.q 7 (.q 8 (.q 9 (.q 10 (.q 11 (.q 12 (.q 13 (.q 14 (.l 15 .b (.q 16 (.l 17 .b .nil)))))))))))))))))) [] rfl (by kernel_rfl) fK ?_
   refine Aa0 ?_;refine CG ?_;refine CG ?_;refine GQ ?_;refine Aa0 ?_;refine FJ ?_;refine Adi ?_;refine Ada ?_;refine' D7 rfl _ rfl rfl _ _
   rotate_left
   ·exact CO gF (a:=y) (a+k) hO1 rfl rfl rfl (by unfold gX; exact iF) rfl fL (by omega)
   ·rintro _ _ ⟨_,_,_,rfl⟩ w hw; exact hw.sel fK
   rintro _ _ ⟨rfl,σ2,hO2,rfl⟩;refine Ada ?_;refine' D7 rfl _ rfl rfl _ _
   rotate_left
   ·exact CO gF (a:=u) (a+k+1) hO2 rfl rfl rfl (by unfold gX; exact iF) rfl fL (by omega)
   ·rintro _ _ ⟨_,_,_,rfl⟩ w hw; exact hw.sel fK
   rintro _ _ ⟨rfl,σ3,hO3,rfl⟩;refine BC ?_;refine Ack ?_
   rw [aTi (by omega),← e2] at hO3
   exact AZ (k+1,σ3) ⟨by dsimp only; omega,hO3⟩ (by dsimp only; omega) fP fK
  ·have hke:k=i-(a+1):=by omega
   subst hke;refine Aav ?_;refine B6 ?_;refine Ab5 ?_
   obtain ⟨W,e1,e2,e3⟩:=wC (P:=P) (u:=u) (V:=V) (Q:=Q) (i-(a+1))
   rw [e1] at hO1
   refine A2 (gY rfl) fQ fK ⟨rfl,W,σ1,by simpa using e2,?_,hO1,rfl⟩
   rw [e3]
   refine aGn hc (by omega) hV (fun y h0 hy=>g4 y (by omega) ?_) (fun y hy=>g5 y ?_ hy)
   ·rw [show i-1-(a+1)=i-(a+1)-1 by omega]; exact hy
   ·have:=(aC.1 hy).1; omega
 by_cases hv1:V.length=1
 ·clear ih
  obtain ⟨v,rfl⟩:=eY.1 hv1
  rw [bM] at hb hd;subst hb
  have rm:=hO.row gF (i:=m) (x:=v) (aPh (m:=m) (by omega) (aK _) (by simp))
  refine Ad8 ?_;refine Acy ?_;refine Ad8 ?_;refine CJ ?_;refine Acu ?_;refine Aa5 ?_;refine Aap ?_
  refine BE [0,1,2,3,4] (X:=Nat × Nat) (a,m) (fun z=>a<=z.1/\z.1<=z.2/\z.2<=m/\(∀ x,a<z.1->U[z.1-1-a]?=some x->cf x v<=0)/\(∀ x,z.2<m->U[z.2-a]?=some x->cf v x<=0)) (fun z=>[(14,int (z.1:Int)),(15,int (z.2:Int))]) (fun _=>[σ]) (fun z=>z.2-z.1) fT ⟨aK _,by dsimp only; omega,aK _,fun y h=>absurd h (dS _),fun y h=>absurd h (dS _)⟩ fP fK ?_
  rintro ⟨i,j⟩ ⟨g1,g2,g3,g4,g5⟩
  dsimp only at g1 g2 g3 g4 g5 ⊢
  by_cases hlt:i<j
  ·obtain ⟨h,hh⟩:∃ h,(i+j) / 2=h:=⟨_,rfl⟩
   obtain ⟨x,hx⟩:∃ x,U[h-a]?=some x:=⟨_,aA (by omega)⟩
   have rh:=hO.row gF (i:=h) (x:=x) (aPg ha (by omega) hx)
   have hcc:=hcf v x
   obtain ⟨cv,hcv⟩:∃ cv,cf v x=cv:=⟨_,rfl⟩
   rw [hcv] at hcc;refine Aeu ?_;refine Adh ?_
   rw [show (i:Int)+(j:Int)=((i+j:Nat):Int) from by omega]
   focus ((refine' CN _ rfl rfl rfl _; rotate_left; (apply E3; exact rfl; exact rfl; exact rfl; omega)))
   focus ((refine' CN _ rfl rfl rfl _; rotate_left; (apply DE; exact rfl; exact rfl; decide)))
   refine DD ?_;refine Aba ?_;rw [hh]
   refine A9 (.q 0 (.q 1 (.q 2 (.q 3 (.q 4 (.q 5 (.q 6 (.q 7 (.q 8 (.l 9 .e (.q 10 (.q 11 .nil)))))))))))) [] rfl (by kernel_rfl) fK ?_
   refine Adc ?_;refine Adi ?_;refine BZ (BQ rfl hcc rfl rfl rdZ rfl rfl ?_);rintro _ rfl
   by_cases hcl:cv<0
   ·refine D8 ?_
    refine CZ ?_;refine Aby ?_;refine Ad ?_;refine Acq ?_
    refine AZ (i,h) ⟨g1,by dsimp only; omega,by dsimp only; omega,g4,fun z hz e=>?_⟩ (by dsimp only; omega) fP fK
    dsimp only at hz e
    rw [hx] at e
    obtain rfl:=Option.some.inj e
    omega
   ·refine C4 ?_
    refine CZ ?_;refine Ad6 ?_;refine Ab8 ?_;refine BB ?_
    refine AZ (h+1,j) ⟨by dsimp only; omega,by dsimp only; omega,g3,fun z hz e=>?_,g5⟩ (by dsimp only; omega) fP fK
    dsimp only at hz e
    rw [show h+1-1-a=h-a by omega,hx] at e
    obtain rfl:=Option.some.inj e
    exact hc.tot (by omega)
  have hij:i=j:=by omega
  subst hij;refine Acx ?_;refine Aag ?_;refine Aaa ?_;refine AM ?_
  have hO0:OwA gX 4 118 b c k0 (shF P v U Q U.length) σ:=hO.cast (by simp [shF])
  refine BE [0,1,2,3,4,14] (X:=(Nat × Nat) × PH) ((m,U.length),σ) (fun z=>z.1.1=a+z.1.2/\i-a<=z.1.2/\z.1.2<=U.length/\OwA gX 4 118 b c k0 (shF P v U Q z.1.2) z.2) (fun z=>[(17,int (z.1.1:Int))]) (fun z=>[z.2]) (fun z=>z.1.2) fT ⟨by dsimp only; omega,by dsimp only; omega,aK _,hO0⟩ fP fK ?_
  rintro ⟨⟨p,k⟩,σ1⟩ ⟨hp,hk1,hk2,hO1⟩
  dsimp only at hp hk1 hk2 hO1 ⊢
  by_cases hlt2:i-a<k
  ·obtain ⟨kk,rfl⟩:∃ kk,k=kk+1:=⟨k-1,by omega⟩
   obtain ⟨pp,rfl⟩:∃ pp,p=pp+1:=⟨p-1,by omega⟩
   obtain ⟨x,F,G,e1,e2,e3⟩:=wB (P:=P) (u:=v) (Q:=Q) (show kk<U.length by omega)
   rw [e2] at hO1
   have r1:=hO1.row gF (i:=pp+1-1) (x:=x) (xY (by omega))
   have r2:=hO1.row gF (i:=pp+1) (x:=v) (xZ (by omega))
   refine Aav ?_;refine Adt ?_;refine Aat ?_
   refine A9 (.q 0 (.q 1 (.p 2 (.p 3 (.p 4 (.q 5 (.q 6 (.q 7 (.q 8 (.q 9 (.q 10 (.q 11 (.q 12 (.q 13 (.q 14 (.l 15 .b (.q 16 (.l 17 .b .nil)))))))))))))))))) [] rfl (by kernel_rfl) fK ?_
   refine Aa0 ?_;refine CG ?_;refine CG ?_;refine DV ?_;refine Adk ?_;refine Adi ?_;refine Ada ?_;refine' D7 rfl _ rfl rfl _ _
   rotate_left
   ·exact CO gF (a:=x) (pp+1) hO1 rfl rfl rfl (by unfold gX; exact iF) rfl fL (by omega)
   ·rintro _ _ ⟨_,_,_,rfl⟩ w hw; exact hw.sel fK
   rintro _ _ ⟨rfl,σ2,hO2,rfl⟩;refine Ada ?_;refine' D7 rfl _ rfl rfl _ _
   rotate_left
   ·exact CO gF (a:=v) (pp+1-1) hO2 rfl rfl rfl (by unfold gX; exact iF) rfl fL (by omega)
   ·rintro _ _ ⟨_,_,_,rfl⟩ w hw; exact hw.sel fK
   rintro _ _ ⟨rfl,σ3,hO3,rfl⟩;refine BC ?_;refine Aay ?_;refine AB ?_;refine B6 ?_;refine Aaa ?_
   rw [aGm (by omega) (by omega),← e1] at hO3
   exact AZ ((pp,kk),σ3) ⟨by dsimp only; omega,by dsimp only; omega,by dsimp only; omega,hO3⟩ (by dsimp only; omega) fP fK
  ·have hke:k=i-a:=by omega
   subst hke;refine Aav ?_;refine B7 ?_;refine Aa7 ?_
   obtain ⟨W,e1,e2,e3⟩:=wC (P:=P) (u:=v) (V:=U) (Q:=Q) (i-a)
   rw [e1] at hO1;refine A2 (gY rfl) fQ fK ⟨rfl,W,σ1,e2.trans (List.perm_append_singleton v U).symm,?_,hO1,rfl⟩;rw [e3]
   refine aGn hc (by omega) hU (fun y h0 hy=>g4 y (by omega) ?_) (fun y hy=>g5 y ?_ hy)
   ·rw [show i-1-a=i-a-1 by omega]; exact hy
   ·have:=(aC.1 hy).1; omega
 refine Ad8 ?_;refine Acy ?_;refine Ad8 ?_;refine Acy ?_;refine Adh ?_
 rw [show (a:Int)+(bb:Int)=((a+bb:Nat):Int) from by omega]
 focus ((refine' CN _ rfl rfl rfl _; rotate_left; (apply E3; exact rfl; exact rfl; exact rfl; omega)))
 focus ((refine' CN _ rfl rfl rfl _; rotate_left; (apply DE; exact rfl; exact rfl; decide)))
 refine DD ?_;refine Aaa ?_
 obtain ⟨mid,hmid⟩:∃ mid,(a+bb) / 2=mid:=⟨_,rfl⟩
 rw [hmid];refine Adh ?_;refine Aaa ?_
 rw [show (mid:Int)+(m:Int)=((mid+m:Nat):Int) from by omega]
 refine Adl ?_;refine AC ?_
 refine DG (X:=Nat × Nat) [0,1,2,3,4,18,19] (fun z=>z=(if mid<m then (mid+m-bb,mid) else (a,m))) (fun z=>[(20,int (z.1:Int)),(21,int (z.2:Int))]) (fun _=>[σ]) fT ?_ ?_
 ·by_cases hmm:mid<m
  ·refine AC ?_
   refine Abu ?_;refine Adt ?_;refine Aaw ?_;refine CC ?_;refine Aaa ?_;refine Ad ?_;refine Aaa ?_
   rw [show ((mid+m:Nat):Int)-(bb:Int)=((mid+m-bb:Nat):Int) from by omega]
   skip
   exact CK (mid+m-bb,mid) (by rw [if_pos hmm]) fP fK
  ·refine AC ?_
   refine Abu ?_;refine B7 ?_;refine Aae ?_;refine Aa5 ?_;refine Ad ?_;refine Aaa ?_
   exact CK (a,m) (by rw [if_neg hmm]) fP fK
 rintro ⟨lo,hi⟩ hz
 dsimp only
 have hlo:a<=lo/\lo<=hi/\hi<=mid/\hi<=m/\(lo=a\/mid-lo=V.length)/\(hi=mid\/hi=m)/\mid<=lo+V.length:=by
  split at hz <;> (simp only [Prod.mk.injEq] at hz; omega)
 clear hz
 obtain ⟨q1,q2,q3,q4,q5,q6,q7⟩:=hlo
 refine Aab ?_;refine B6 ?_;refine Aaa ?_;refine Aap ?_
 refine BE [0,1,2,3,4,18,19,22] (X:=Nat × Nat) (lo,hi) (fun z=>lo<=z.1/\z.1<=z.2/\z.2<=hi/\(∀ x y,lo<z.1->U[z.1-1-a]?=some x->V[mid-z.1]?=some y->cf x y<=0)/\(∀ x y,z.2<hi->V[mid-z.2-1]?=some x->U[z.2-a]?=some y->cf x y<=0)) (fun z=>[(20,int (z.1:Int)),(21,int (z.2:Int))]) (fun _=>[σ]) (fun z=>z.2-z.1) fT ⟨aK _,q2,aK _,fun x y h=>absurd h (dS _),fun x y h=>absurd h (dS _)⟩ fP fK ?_
 rintro ⟨st,r⟩ ⟨g1,g2,g3,g4,g5⟩
 dsimp only at g1 g2 g3 g4 g5 ⊢
 by_cases hlt:st<r
 ·clear ih
  obtain ⟨h,hh⟩:∃ h,(st+r) / 2=h:=⟨_,rfl⟩
  obtain ⟨x,hx⟩:∃ x,U[h-a]?=some x:=⟨_,aA (by omega)⟩
  obtain ⟨y,hy⟩:∃ y,V[mid-h-1]?=some y:=⟨_,aA (by omega)⟩
  have rh:=hO.row gF (i:=h) (x:=x) (aPg ha (by omega) hx)
  have rv:=hO.row gF (i:=mid+m-1-h) (x:=y) (aPh (m:=m) (by omega) (by omega) (by rw [show mid+m-1-h-m=mid-h-1 by omega]; exact hy))
  have hcc:=hcf y x
  obtain ⟨cv,hcv⟩:∃ cv,cf y x=cv:=⟨_,rfl⟩
  rw [hcv] at hcc;refine Aeu ?_;refine Adh ?_
  rw [show (st:Int)+(r:Int)=((st+r:Nat):Int) from by omega]
  focus ((refine' CN _ rfl rfl rfl _; rotate_left; (apply E3; exact rfl; exact rfl; exact rfl; omega)))
  focus ((refine' CN _ rfl rfl rfl _; rotate_left; (apply DE; exact rfl; exact rfl; decide)))
  refine DD ?_;refine Aba ?_;rw [hh]
  refine A9 (.q 0 (.q 1 (.q 2 (.q 3 (.q 4 (.q 5 (.q 6 (.q 7 (.q 8 (.q 9 (.q 10 (.l 11 .e (.q 12 (.q 13 .nil)))))))))))))) [] rfl (by kernel_rfl) fK ?_
  refine Aa0 ?_;refine Aa0 ?_;refine ES ?_
  rw [show ((mid+m-1:Nat):Int)-(h:Int)=((mid+m-1-h:Nat):Int) from by omega]
  refine Adi ?_;refine BZ (BQ rfl hcc rfl rfl rdZ rfl rfl ?_);rintro _ rfl
  by_cases hcl:cv<0
  ·refine D8 ?_
   refine CZ ?_;refine Aby ?_;refine Ad ?_;refine Acq ?_
   refine AZ (st,h) ⟨g1,by dsimp only; omega,by dsimp only; omega,g4,fun z1 z2 hz e1 e2=>?_⟩ (by dsimp only; omega) fP fK
   dsimp only at hz e1 e2
   rw [hy] at e1;rw [hx] at e2
   obtain rfl:=Option.some.inj e1
   obtain rfl:=Option.some.inj e2
   omega
  ·refine C4 ?_
   refine CZ ?_;refine Ad6 ?_;refine Ab8 ?_;refine BB ?_
   refine AZ (h+1,r) ⟨by dsimp only; omega,by dsimp only; omega,g3,fun z1 z2 hz e1 e2=>?_,g5⟩ (by dsimp only; omega) fP fK
   dsimp only at hz e1 e2
   rw [show h+1-1-a=h-a by omega,hx] at e1
   rw [show mid-(h+1)=mid-h-1 by omega,hy] at e2
   obtain rfl:=Option.some.inj e1
   obtain rfl:=Option.some.inj e2
   exact hc.tot (by omega)
 have hst:st=r:=by omega
 subst hst
 have hok:=aTf hc hU hV (h:=mid-a) (s:=st-a) (by omega) (by omega) (by omega)
  (fun x y h0 e1 e2=>by
   rw [show mid-a-(st-a)=mid-st by omega] at e2
   by_cases hl2:lo<st
   ·exact g4 x y hl2 (by rw [show st-1-a=st-a-1 by omega]; exact e1) e2
   ·have:=(aC.1 e2).1; omega)
  (fun x y h0 e1 e2=>by
   rw [show mid-a-(st-a)-1=mid-st-1 by omega] at e1
   by_cases hl2:st<hi
   ·exact g5 x y hl2 e1 e2
   ·have:=(aC.1 e2).1; omega)
 rw [show mid-a-(st-a)=mid-st by omega] at hok
 have eU:=bH (st-a) U
 have eV:=bH (mid-st) V
 have lU1:(U.take (st-a)).length=st-a:=by rw [aL]; omega
 have lU2:(U.drop (st-a)).length=m-st:=by rw [cB]; omega
 have lV1:(V.take (mid-st)).length=mid-st:=by rw [aL]; omega
 have lV2:(V.drop (mid-st)).length=bb-m-(mid-st):=by rw [cB]; omega
 have pUV:((U.take (st-a) ++ V.take (mid-st)) ++ (U.drop (st-a) ++ V.drop (mid-st))).Perm (U ++ V):=by
  conv=>rhs; rw [← eU,← eV]
  simp only [aR];refine dD _ ?_;rw [← aR,← aR];exact eA _ cS
 have hO0:OwA gX 4 118 b c k0 (P ++ (U.take (st-a) ++ U.drop (st-a)) ++ (V.take (mid-st) ++ V.drop (mid-st)) ++ Q) σ:=by rw [eU,eV]; exact hO
 have sU1:Srt cf (U.take (st-a)):=hU.sublist (List.take_sublist _ _)
 have sU2:Srt cf (U.drop (st-a)):=hU.sublist (fF _ _)
 have sV1:Srt cf (V.take (mid-st)):=hV.sublist (List.take_sublist _ _)
 have sV2:Srt cf (V.drop (mid-st)):=hV.sublist (fF _ _)
 clear g4 g5 hO
 generalize U.take (st-a)=U1 at *
 generalize U.drop (st-a)=U2 at *
 generalize V.take (mid-st)=V1 at *
 generalize V.drop (mid-st)=V2 at *
 refine Acx ?_;refine Aaw ?_;refine CC ?_;refine Aaa ?_
 rw [show ((mid+m:Nat):Int)-(st:Int)=((mid+m-st:Nat):Int) from by omega]
 skip
 refine AC ?_
 refine DG (X:=PH) [0,1,2,3,4,18,20,24] (fun z=>OwA gX 4 118 b c k0 (P ++ U1 ++ V1 ++ U2 ++ V2 ++ Q) z) (fun _=>[]) (fun z=>[z]) fT ?_ ?_
 ·have nop:U2=[]\/V1=[]->OwA gX 4 118 b c k0 (P ++ U1 ++ V1 ++ U2 ++ V2 ++ Q) σ:=fun h=>hO0.cast (by rcases h with rfl|rfl <;> simp)
  by_cases c1:st<m
  ·by_cases c2:m<mid+m-st
   ·have hro:=aGo fn (P ++ U1) U2 V1 (V2 ++ Q) k0 b c st m (mid+m-st) σ (hO0.cast (by simp)) hl (by rw [aB]; omega) (by omega) (by omega) (by omega) (by omega)
    refine Aev ?_;refine BM ?_;refine Aci ?_;refine Aew ?_;refine BG hro rfl rfl fU rdZ rfl rfl ?_;rintro _ _ ⟨rfl,σ1,hO1,rfl⟩;refine AE ?_
    exact CK σ1 (hO1.cast (by simp)) fP fK
   ·refine AC ?_
    refine Abu ?_;refine Adm ?_;refine BD ?_;refine Adw ?_
    exact CK σ (nop (.inr (bW.1 (by omega)))) fP fK
  ·refine AC ?_
   refine Abu ?_;refine BD ?_;refine Acd ?_;refine Abe ?_
   exact CK σ (nop (.inl (bW.1 (by omega)))) fP fK
 rintro σ1 hO1;clear hO0;refine AC ?_
 refine DG (X:=List Bk × PH) [0,1,2,3,4,18,20,24] (fun z=>z.1.Perm (U1 ++ V1)/\Srt cf z.1/\OwA gX 4 118 b c k0 (P ++ z.1 ++ U2 ++ V2 ++ Q) z.2) (fun _=>[]) (fun z=>[z.2]) fT ?_ ?_
 ·have nop:U1=[]\/V1=[]->(U1 ++ V1).Perm (U1 ++ V1)/\Srt cf (U1 ++ V1)/\OwA gX 4 118 b c k0 (P ++ (U1 ++ V1) ++ U2 ++ V2 ++ Q) σ1:=fun h=>⟨List.Perm.refl _,by rcases h with rfl|rfl <;> simpa,hO1.cast (by simp)⟩
  by_cases c1:a<st
  ·by_cases c2:st<mid
   ·have hih:=ih P U1 V1 (U2 ++ V2 ++ Q) a st mid σ1 (by omega) (hO1.cast (by simp)) ha (by omega) (by omega) (by omega) (by omega) sU1 sV1
    refine Aev ?_;refine BM ?_;refine Aci ?_;refine Aew ?_;refine BG hih rfl rfl fU rdZ rfl rfl ?_;rintro _ _ ⟨rfl,W1,σ2,p1,s1,hO2,rfl⟩;refine AE ?_
    exact CK (W1,σ2) ⟨p1,s1,hO2.cast (by simp)⟩ fP fK
   ·refine AC ?_
    refine Abu ?_;refine Adm ?_;refine BD ?_;refine Adw ?_
    exact CK (U1 ++ V1,σ1) (nop (.inr (bW.1 (by omega)))) fP fK
  ·refine AC ?_
   refine Abu ?_;refine BD ?_;refine Acd ?_;refine Abe ?_
   exact CK (U1 ++ V1,σ1) (nop (.inl (bW.1 (by omega)))) fP fK
 rintro ⟨W1,σ2⟩ ⟨p1,s1,hO2⟩
 dsimp only at p1 s1 hO2 ⊢
 have lW1:=p1.length_eq
 rw [aB] at lW1
 have fin:∀ W2:List Bk,W2.Perm (U2 ++ V2)->Srt cf W2->(W1 ++ W2).Perm (U ++ V)/\Srt cf (W1 ++ W2):=fun W2 p2 s2=>⟨(List.Perm.append p1 p2).trans pUV,aCi hc s1 s2 p1 p2 hok⟩
 have nop:U2=[]\/V2=[]->Srt cf (U2 ++ V2):=fun h=>by rcases h with rfl|rfl <;> simpa
 by_cases c1:mid<mid+m-st
 ·by_cases c2:mid+m-st<bb
  ·have hih:=ih (P ++ W1) U2 V2 Q mid (mid+m-st) bb σ2 (by omega) (hO2.cast (by simp)) (by rw [aB]; omega) (by omega) (by omega) (by omega) (by omega) sU2 sV2
   refine Aev ?_;refine BM ?_;refine Aci ?_;refine Aew ?_;refine BG hih rfl rfl fU rdZ rfl rfl ?_;rintro _ _ ⟨rfl,W2,σ3,p2,s2,hO3,rfl⟩;refine AE ?_
   exact BJ (gY rfl) fQ fK ⟨rfl,W1 ++ W2,σ3,(fin W2 p2 s2).1,(fin W2 p2 s2).2,hO3.cast (by simp),rfl⟩
  ·have f:=fin (U2 ++ V2) (List.Perm.refl _) (nop (.inr (bW.1 (by omega))))
   refine Aev ?_;refine BD ?_;refine Adw ?_
   exact BJ (gY rfl) fQ fK ⟨rfl,W1 ++ (U2 ++ V2),σ2,f.1,f.2,hO2.cast (by simp),rfl⟩
 ·have f:=fin (U2 ++ V2) (List.Perm.refl _) (nop (.inl (bW.1 (by omega))))
  refine Aaw ?_;refine BD ?_;refine Acd ?_;refine Abe ?_
  exact BJ (gY rfl) fQ fK ⟨rfl,W1 ++ (U2 ++ V2),σ2,f.1,f.2,hO2.cast (by simp),rfl⟩
theorem aDe (v fn:Value):Ans Tryz.prog (fv 258) [v,int 0,int 0,fn] [] (fun r=>r=.tuple #[]):=by
 refine A8 Tryz.func258 Tryz.ntmps258 fun N β=>?_
 refine Aab ?_;refine CF ?_;refine Aaa ?_;refine AM ?_
 refine BE [0,1,2,3] (X:=Unit) () (fun _=>True) (fun _=>[(8,int 1)]) (fun _=>[]) (fun _=>0) fT trivial fP fK ?_
 rintro _ _;refine Acx ?_;exact BJ (gY rfl) fQ fK ⟨rfl,rfl⟩
theorem aDf (v fn:Value):Ans Tryz.prog (fv 205) [v,int 0,fn] [] (fun r=>r=.tuple #[]):=by
 refine A8 Tryz.func205 Tryz.ntmps205 fun N β=>?_
 refine Aam ?_;refine Aab ?_;refine Aaq ?_;refine Aap ?_
 refine BE [0,1,2,6] (X:=Unit) () (fun _=>True) (fun _=>[(7,int 0),(8,int 20)]) (fun _=>[]) (fun _=>0) fT trivial fP fK ?_
 rintro _ _;refine Aav ?_;refine DC ?_;refine Aa7 ?_;refine Aee ?_;refine A5 (aDe v fn) ?_;refine Ad3 ?_
 refine BE [0,1,2,6] (X:=Unit) () (fun _=>True) (fun _=>[]) (fun _=>[]) (fun _=>0) fT trivial fP fK ?_
 rintro _ _;refine Acx ?_;exact BJ (gY rfl) fQ fK ⟨rfl,rfl⟩
theorem aGp {cf:Bk->Bk->Int} (hc:Cmp cf) (fn:Value) (hcf:∀ x y:Bk,Ans Tryz.prog fn [.agg #[int x.c,int x.a,int x.b,int x.k],.agg #[int y.c,int y.a,int y.b,int y.k]] [] (fun r=>r=int (cf x y))) (l:List Bk) (n b c:Nat) (σ:PH) (hO:OwA gX 4 118 b c n l σ) (hl:n<=1000000) :
  Eng.Spec Tryz.prog (fv 205) [.slice (some ⟨b,0,none⟩) n c,int (n:Int),fn] [] [σ] (fun r H'=>r=.tuple #[]/\∃ l' σ',l'.Perm l/\Srt cf l'/\OwA gX 4 118 b c n l' σ'/\H'=[σ']):=by
 have hln:=hO.1
 refine A8 Tryz.func205 Tryz.ntmps205 fun N β=>?_
 refine Aam ?_;refine Aab ?_;refine Aaq ?_;refine Aap ?_
 refine BE [0,1,2,6] (X:=(Nat × (List Bk × List Bk)) × PH) ((0,([],l)),σ) (fun z=>Beg cf 20 z.1.2.1/\z.1.2.1.length=z.1.1/\(z.1.2.1 ++ z.1.2.2).Perm l/\OwA gX 4 118 b c n (z.1.2.1 ++ z.1.2.2) z.2) (fun z=>[(7,int (z.1.1:Int)),(8,int ((z.1.1+20:Nat):Int))]) (fun z=>[z.2]) (fun z=>z.1.2.2.length) fT ⟨Beg.nil,rfl,List.Perm.refl _,hO⟩ fP fK ?_
 rintro ⟨⟨a,⟨D,R⟩⟩,σ1⟩ ⟨hB,hD,hp,hO1⟩
 dsimp only at hB hD hp hO1 ⊢
 have hpl:=hp.length_eq
 rw [aB] at hpl
 by_cases hlt:a+20<=n
 ·have eR:=bH 20 R
  have l1:(R.take 20).length=20:=by rw [aL]; omega
  have l2:(R.drop 20).length=R.length-20:=cB
  rw [← eR] at hp hO1
  generalize R.take 20=R1 at *
  generalize R.drop 20=R2 at *
  have hins:=wD hc fn hcf D R1 R2 n b c a (a+20) σ1 (hO1.cast (by simp)) hl hD (by omega)
  refine Aav ?_;refine EA ?_;refine Aah ?_;refine Acr ?_;refine Aee ?_;refine BG hins rfl rfl fU rdZ rfl rfl ?_;rintro _ _ ⟨rfl,Y,σ2,pY,sY,hO2,rfl⟩
  have lY:=pY.length_eq
  refine AE ?_;refine Aa5 ?_;refine Abu ?_;refine CF ?_;refine Acq ?_
  rw [show ((a+20:Nat):Int)+20=((a+20+20:Nat):Int) from by omega]
  refine AZ ((a+20,(D ++ Y,R2)),σ2) ⟨hB.snoc (by omega) sY,by dsimp only; rw [aB]; omega,?_,hO2⟩ (by dsimp only; omega) fP fK
  dsimp only
  refine List.Perm.trans ?_ hp;rw [aR];exact dD _ (eA _ pY)
 refine Aav ?_;refine DC ?_;refine Aa7 ?_;refine Aee ?_
 have hins:=wD hc fn hcf D R [] n b c a n σ1 (hO1.cast (by simp)) hl hD (by omega)
 refine BG hins rfl rfl fU rdZ rfl rfl ?_;rintro _ _ ⟨rfl,Y,σ2,pY,sY,hO2,rfl⟩
 have lY:=pY.length_eq
 have hK0:Blk cf 20 (D ++ Y):=hB.done (by omega) sY
 have hP0:(D ++ Y).Perm l:=(dD _ pY).trans hp
 have hO3:OwA gX 4 118 b c n (D ++ Y) σ2:=hO2.cast (by simp)
 clear hO hO1 hO2 hB hp hins;refine Ad3 ?_
 refine BE [0,1,2] (X:=(Nat × List Bk) × PH) ((20,D ++ Y),σ2) (fun z=>Blk cf z.1.1 z.1.2/\0<z.1.1/\z.1.1<=2*n+20/\z.1.2.Perm l/\OwA gX 4 118 b c n z.1.2 z.2) (fun z=>[(6,int (z.1.1:Int))]) (fun z=>[z.2]) (fun z=>n-z.1.1) fT ⟨hK0,by dsimp only; omega,by dsimp only; omega,hP0,hO3⟩ fP fK ?_
 clear hK0 hP0 hO3;rintro ⟨⟨bs,L⟩,σ3⟩ ⟨hK,hb0,hb1,hp,hO⟩
 dsimp only at hK hb0 hb1 hp hO ⊢
 have hLl:=hO.1
 by_cases hlt2:bs<n
 rotate_left
 ·refine AC ?_
  refine Aaw ?_;refine Ab5 ?_
  exact BJ (gY rfl) fQ fK ⟨rfl,L,σ3,hp,hK.small (by omega) hb0,hO,rfl⟩
 refine Aeu ?_;refine Aab ?_;refine FN ?_;refine Aaq ?_;refine Aap ?_
 refine BE [0,1,2,6] (X:=(Nat × (List Bk × List Bk)) × PH) ((0,([],L)),σ3) (fun z=>Beg cf (2*bs) z.1.2.1/\z.1.2.1.length=z.1.1/\Blk cf bs z.1.2.2/\(z.1.2.1 ++ z.1.2.2).Perm l/\OwA gX 4 118 b c n (z.1.2.1 ++ z.1.2.2) z.2) (fun z=>[(7,int (z.1.1:Int)),(8,int ((z.1.1+2*bs:Nat):Int))]) (fun z=>[z.2]) (fun z=>z.1.2.2.length) fT ⟨Beg.nil,rfl,hK,hp,hO⟩ ?_ fK ?_
 ·rw [bZ]; exact fP
 clear hK hO hp;rintro ⟨⟨a,⟨D,R⟩⟩,σ4⟩ ⟨hB,hD,hK,hp,hO⟩
 dsimp only at hB hD hK hp hO ⊢
 have hpl:=hO.1
 rw [aB] at hpl
 by_cases hlt3:a+2*bs<=n
 ·obtain ⟨s1,_,h2⟩:=hK.two hb0 (by omega)
  obtain ⟨s2,k2⟩:=h2 (by omega)
  have eR:R.take bs ++ ((R.drop bs).take bs ++ R.drop (2*bs))=R:=by
   rw [show 2*bs=bs+bs by omega,← List.drop_drop,bH,bH]
  have l1:(R.take bs).length=bs:=by rw [aL]; omega
  have l2:((R.drop bs).take bs).length=bs:=by rw [aL,cB]; omega
  have l3:(R.drop (2*bs)).length=R.length-2*bs:=cB
  rw [← eR] at hp hO
  generalize R.take bs=U at *
  generalize (R.drop bs).take bs=V at *
  generalize R.drop (2*bs)=R2 at *
  have hsm:=aCj hc fn hcf n b c hl _ D U V R2 a (a+bs) (a+2*bs) σ4 (aK _) (hO.cast (by simp)) hD (by omega) (by omega) (by omega) (by omega) s1 s2
  refine Aav ?_;refine EA ?_;refine Aah ?_;refine Acr ?_;refine Aee ?_;refine CF ?_;refine Aal ?_
  rw [show (a:Int)+(bs:Int)=((a+bs:Nat):Int) from by omega]
  refine BG hsm rfl rfl fU rdZ rfl rfl ?_;rintro _ _ ⟨rfl,W,σ5,pW,sW,hO5,rfl⟩
  have lW:=pW.length_eq
  rw [aB] at lW;refine AE ?_;refine Aa5 ?_;refine Abu ?_;refine FN ?_;refine CF ?_;refine Acq ?_
  rw [show ((a+2*bs:Nat):Int)+((2*bs:Nat):Int)=((a+2*bs+2*bs:Nat):Int) from by omega]
  refine AZ ((a+2*bs,(D ++ W,R2)),σ5) ⟨hB.snoc (by omega) sW,by dsimp only; rw [aB]; omega,k2,?_,hO5⟩ (by dsimp only; omega) fP fK
  dsimp only
  refine List.Perm.trans ?_ hp;rw [aR];refine dD _ ?_;rw [← aR];exact eA _ pW
 refine Aav ?_;refine DC ?_;refine Aa7 ?_;refine Aav ?_;refine CF ?_;refine Adz ?_
 rw [show (a:Int)+(bs:Int)=((a+bs:Nat):Int) from by omega]
 by_cases hm:a+bs<n
 ·obtain ⟨s1,h2,_⟩:=hK.two hb0 (by omega)
  have s2:=h2 (by omega)
  have eR:R.take bs ++ R.drop bs=R:=bH _ _
  have l1:(R.take bs).length=bs:=by rw [aL]; omega
  have l2:(R.drop bs).length=R.length-bs:=cB
  rw [← eR] at hp hO
  generalize R.take bs=U at *
  generalize R.drop bs=V at *
  have hsm:=aCj hc fn hcf n b c hl _ D U V [] a (a+bs) n σ4 (aK _) (hO.cast (by simp)) hD (by omega) (by omega) (by omega) (by omega) s1 s2
  refine Ab0 ?_;refine Aew ?_;refine BG hsm rfl rfl fU rdZ rfl rfl ?_;rintro _ _ ⟨rfl,W,σ5,pW,sW,hO5,rfl⟩
  have lW:=pW.length_eq
  rw [aB] at lW;refine AE ?_;refine Ad ?_;refine EY ?_;refine Acq ?_
  rw [show (bs:Int)*2=((2*bs:Nat):Int) from by omega]
  exact AZ ((2*bs,D ++ W),σ5) ⟨hB.done (by omega) sW,by dsimp only; omega,by dsimp only; omega,(dD _ pW).trans hp,hO5.cast (by simp)⟩ (by dsimp only; omega) fP fK
 ·refine BD ?_
  refine Aai ?_;refine Ad ?_;refine EY ?_;refine Acq ?_
  rw [show (bs:Int)*2=((2*bs:Nat):Int) from by omega]
  exact AZ ((2*bs,D ++ R),σ4) ⟨hB.done (by omega) (hK.small (by omega) hb0),by dsimp only; omega,by dsimp only; omega,hp,hO⟩ (by dsimp only; omega) fP fK
theorem wE {cf:Bk->Bk->Int} (hc:Cmp cf) (fn:Value) (hcf:∀ x y:Bk,Ans Tryz.prog fn [.agg #[int x.c,int x.a,int x.b,int x.k],.agg #[int y.c,int y.a,int y.b,int y.k]] [] (fun r=>r=int (cf x y))) (l:List Bk) (v:Value) (σ:PH) (hO:fS 118 4 v l.length (l.flatMap gX) σ) (hl:l.length<=1000000) :
  Eng.Spec Tryz.prog (fv 146) [v,fn] [] [σ] (fun r H'=>r=.tuple #[]/\∃ l' σ',l'.Perm l/\Srt cf l'/\fS 118 4 v l'.length (l'.flatMap gX) σ'/\H'=[σ']):=by
 refine A8 Tryz.func146 Tryz.ntmps146 fun N β=>?_
 rcases hO.block with ⟨rfl,rfl,rfl⟩|⟨b,cap,cur,rfl,_⟩
 ·refine AA ?_
  refine Aal ?_;refine A6 ?_;refine AB ?_;refine A5 (aDf _ fn) ?_;refine AE ?_;exact BJ (gY rfl) fQ fK ⟨rfl,[],emp,List.Perm.refl _,.nil,hO,rfl⟩
 ·have hst:=aGp hc fn hcf l l.length b cap σ ⟨rfl,hO⟩ hl
  refine Abu ?_;refine A6 ?_;refine AB ?_;refine BG hst rfl rfl fU rdZ rfl rfl ?_;rintro _ _ ⟨rfl,l',σ',p,s,hO',rfl⟩;refine AE ?_;refine BJ (gY rfl) fQ fK ⟨rfl,l',σ',p,s,?_,rfl⟩;rw [p.length_eq];exact hO'.2
theorem rW (fn:Value) (P A M B Q:List Hd) (n k0 b c:Nat) (σ:PH) (hA:A.length=n) (hB:B.length=n) (hO:OwA hY 5 259 b c k0 (P ++ A ++ M ++ B ++ Q) σ) (hl:k0<=1000000) (i j:Nat) (hi:P.length=i) (hj:i+n+M.length=j) :
  Eng.Spec Tryz.prog (fv 299) [.slice (some ⟨b,0,none⟩) k0 c,int (i:Int),int (j:Int),int (n:Int),fn] [] [σ] (fun r H'=>r=.tuple #[]/\∃ σ',OwA hY 5 259 b c k0 (P ++ B ++ M ++ A ++ Q) σ'/\H'=[σ']):=by
 have hlen:=hO.1
 have hln:P.length+n+M.length+n+Q.length=k0:=by rw [← hlen]; simp only [aB]; omega
 refine A8 Tryz.func299 Tryz.ntmps299 fun N β=>?_
 rw [← aJ0] at hO;refine Aam ?_;refine AM ?_
 refine BE [0,1,2,3] (X:=Nat × PH) (0,σ) (fun z=>z.1<=n/\OwA hY 5 259 b c k0 (swK P A M B Q z.1) z.2) (fun z=>[(10,int (z.1:Int))]) (fun z=>[z.2]) (fun z=>n-z.1) fT ⟨by dsimp only; omega,hO⟩ fP fK ?_
 rintro ⟨k,σ1⟩ ⟨hk,hO1⟩
 dsimp only at hk hO1 ⊢
 by_cases hlt:k<n
 rotate_left
 ·have hke:k=n:=by omega
  rw [hke,aNn hA hB] at hO1;refine Acx ?_;exact BJ (gY rfl) fQ fK ⟨rfl,σ1,hO1,rfl⟩
 obtain ⟨x,y,F,M2,G,e1,e2,f1,f2⟩:=aJ1 (P:=P) (M:=M) (Q:=Q) hA hB hlt
 rw [e1] at hO1
 have r1:=hO1.row gM (i:=i+k) (x:=x) (aTg (by omega))
 have r2:=hO1.row gM (i:=j+k) (x:=y) (aTh (by omega))
 refine Aav ?_;refine Acp ?_
 refine A9 (.q 0 (.q 1 (.q 2 (.q 3 (.p 4 (.p 5 (.p 6 (.p 7 (.q 8 (.q 9 (.q 10 (.q 11 (.q 12 (.q 13 (.q 14 (.q 15 (.q 16 (.q 17 (.q 18 (.q 19 (.q 20 (.l 21 .b (.q 22 (.l 23 .b .nil)))))))))))))))))))))))) [] rfl (by kernel_rfl) fK ?_
 refine Adc ?_;refine DP ?_;refine CG ?_;refine CG ?_;refine CG ?_;refine GR ?_;refine Adc ?_;refine DP ?_;refine Abl ?_;refine Adc ?_;refine DP ?_;refine Abl ?_;refine BH ?_
 rw [show (i:Int)+(k:Int)=((i+k:Nat):Int) from by omega,show (j:Int)+(k:Int)=((j+k:Nat):Int) from by omega]
 skip
 refine BZ ?_;refine' D7 rfl _ rfl rfl _ _
 rotate_left
 ·exact CO gM (a:=y) (i+k) hO1 rfl rfl rfl (by unfold hY; exact iF) rfl fL (by omega)
 ·rintro _ _ ⟨_,_,_,rfl⟩ w hw; exact hw.sel fK
 rintro _ _ ⟨rfl,σ2,hO2,rfl⟩;refine Ada ?_;refine' D7 rfl _ rfl rfl _ _
 rotate_left
 ·exact CO gM (a:=x) (j+k) hO2 rfl rfl rfl (by unfold hY; exact iF) rfl fL (by omega)
 ·rintro _ _ ⟨_,_,_,rfl⟩ w hw; exact hw.sel fK
 rintro _ _ ⟨rfl,σ3,hO3,rfl⟩;refine BC ?_;refine Ack ?_
 refine AZ (k+1,σ3) ⟨by dsimp only; omega,?_⟩ (by dsimp only; omega) fP fK
 dsimp only
 rw [aTj (by omega) (by omega)] at hO3
 rw [e2]; exact hO3
theorem aGq (fn:Value) (P A B Q:List Hd) (k0 b c a m bb:Nat) (σ:PH) (hO:OwA hY 5 259 b c k0 (P ++ A ++ B ++ Q) σ) (hl:k0<=1000000) (ha:P.length=a) (hm:a+A.length=m) (hb:m+B.length=bb) (h1:0<A.length) (h2:0<B.length) :
  Eng.Spec Tryz.prog (fv 282) [.slice (some ⟨b,0,none⟩) k0 c,int (a:Int),int (m:Int),int (bb:Int),fn] [] [σ] (fun r H'=>r=.tuple #[]/\∃ σ',OwA hY 5 259 b c k0 (P ++ B ++ A ++ Q) σ'/\H'=[σ']):=by
 have hI0:=tA.start (Q:=Q) ha hm hb h1 h2
 have hln:a+A.length+B.length+Q.length=k0:=by rw [← hO.1]; simp only [aB]; omega
 generalize P ++ A ++ B ++ Q=D0 at hO hI0
 generalize P ++ B ++ A ++ Q=F at hI0 ⊢
 refine A8 Tryz.func282 Tryz.ntmps282 fun N β=>?_
 refine Aaw ?_;refine CC ?_;refine Adz ?_;refine CC ?_;refine Aaa ?_;refine Aap ?_
 rw [show (m:Int)-(a:Int)=((m-a:Nat):Int) from by omega,show (bb:Int)-(m:Int)=((bb-m:Nat):Int) from by omega]
 refine BE [0,1,2,3,4] (X:=(Nat × Nat) × (List Hd × PH)) ((m-a,bb-m),(D0,σ)) (fun z=>tA m F z.2.1 z.1.1 z.1.2/\OwA hY 5 259 b c k0 z.2.1 z.2.2) (fun z=>[(10,int (z.1.1:Int)),(11,int (z.1.2:Int))]) (fun z=>[z.2.2]) (fun z=>z.1.1+z.1.2) fT ⟨hI0,hO⟩ fP fK ?_
 rintro ⟨⟨i,j⟩,⟨D1,σ1⟩⟩ ⟨hI,hO1⟩
 dsimp only at hI hO1 ⊢
 have hle:=hI.le
 have hpi:=hI.pi
 have hpj:=hI.pj
 have hDl:=hO1.1
 by_cases hij:i=j
 ·subst hij
  obtain ⟨P1,A1,B1,Q1,rfl,l1,l2,l3,l4,rfl⟩:=hI.last
  refine Aav ?_;refine BN ?_;refine Aa7 ?_;refine AA ?_;refine Abm ?_;refine CC ?_;refine Abm ?_
  rw [show (m:Int)-(i:Int)=((m-i:Nat):Int) from by omega]
  skip
  refine BG (rW fn P1 A1 [] B1 Q1 i k0 b c σ1 l2 l3 hO1 hl (m-i) m l1 (by simp only [cW]; omega)) rfl rfl fU rdZ rfl rfl ?_
  rintro _ _ ⟨rfl,σ2,hO2,rfl⟩;refine AE ?_;exact BJ (gY rfl) fQ fK ⟨rfl,σ2,hO2,rfl⟩
 by_cases hgt:j<i
 ·obtain ⟨P1,A1,M1,B1,Q1,rfl,l1,l2,l3,l4,hI2⟩:=hI.left hgt
  refine Aav ?_;refine Adu ?_;refine Acr ?_;refine Aaw ?_;refine Adt ?_;refine Acs ?_;refine CC ?_;refine Abm ?_
  rw [show (m:Int)-(i:Int)=((m-i:Nat):Int) from by omega]
  skip
  refine BG (rW fn P1 A1 M1 B1 Q1 j k0 b c σ1 l2 l3 hO1 hl (m-i) m l1 (by omega)) rfl rfl fU rdZ rfl rfl ?_
  rintro _ _ ⟨rfl,σ2,hO2,rfl⟩;refine AE ?_;refine Abu ?_;refine CC ?_;refine Acq ?_
  rw [show (i:Int)-(j:Int)=((i-j:Nat):Int) from by omega]
  exact AZ ((i-j,j),(_,σ2)) ⟨hI2,hO2⟩ (by dsimp only; omega) fP fK
 ·obtain ⟨P1,A1,M1,B1,Q1,rfl,l1,l2,l3,l4,hI2⟩:=hI.right (by omega)
  refine Aav ?_;refine Adu ?_;refine Acr ?_;refine Aaw ?_;refine B7 ?_;refine Aae ?_;refine Acs ?_;refine CC ?_;refine Aal ?_;refine CF ?_;refine AB ?_;refine CC ?_;refine Aal ?_
  rw [show (m:Int)-(i:Int)=((m-i:Nat):Int) from by omega,show (m:Int)+(j:Int)-(i:Int)=((m+j-i:Nat):Int) from by omega]
  skip
  refine BG (rW fn P1 A1 M1 B1 Q1 i k0 b c σ1 l2 l3 hO1 hl (m-i) (m+j-i) l1 (by omega)) rfl rfl fU rdZ rfl rfl ?_
  rintro _ _ ⟨rfl,σ2,hO2,rfl⟩;refine AE ?_;refine Abu ?_;refine CC ?_;refine Acq ?_
  rw [show (j:Int)-(i:Int)=((j-i:Nat):Int) from by omega]
  exact AZ ((i,j-i),(_,σ2)) ⟨hI2,hO2⟩ (by dsimp only; omega) fP fK
theorem wF {cf:Hd->Hd->Int} (hc:Cmp cf) (fn:Value) (hcf:∀ x y:Hd,Ans Tryz.prog fn [.agg #[int x.n,int x.a,int x.b,int x.s,int x.k],.agg #[int y.n,int y.a,int y.b,int y.s,int y.k]] [] (fun r=>r=int (cf x y))) (P Y Q:List Hd) (k0 b c a bb:Nat) (σ:PH) (hO:OwA hY 5 259 b c k0 (P ++ Y ++ Q) σ) (hl:k0<=1000000) (ha:P.length=a) (hb:a+Y.length=bb) :
  Eng.Spec Tryz.prog (fv 260) [.slice (some ⟨b,0,none⟩) k0 c,int (a:Int),int (bb:Int),fn] [] [σ] (fun r H'=>r=.tuple #[]/\∃ Y' σ',Y'.Perm Y/\Srt cf Y'/\OwA hY 5 259 b c k0 (P ++ Y' ++ Q) σ'/\H'=[σ']):=by
 have hln:a+Y.length+Q.length=k0:=by rw [← hO.1]; simp only [aB]; omega
 refine A8 Tryz.func260 Tryz.ntmps260 fun N β=>?_
 cases Y with
 | nil =>
  have hab:a=bb:=by simpa using hb
  subst hab;refine Aab ?_;refine Abz ?_;refine AM ?_
  refine BE [0,1,2,3] (X:=Unit) () (fun _=>True) (fun _=>[(8,int ((a+1:Nat):Int))]) (fun _=>[σ]) (fun _=>0) fT trivial fP fK ?_
  rintro _ _;refine Acx ?_;exact BJ (gY rfl) fQ fK ⟨rfl,[],σ,List.Perm.refl _,.nil,hO,rfl⟩
 | cons y0 Y0 =>
 rw [aS] at hb hln;refine Aab ?_;refine Abz ?_;refine AM ?_
 refine BE [0,1,2,3] (X:=(Nat × (List Hd × List Hd)) × PH) ((a+1,([y0],Y0)),σ) (fun z=>z.1.1=a+z.1.2.1.length/\0<z.1.2.1.length/\(z.1.2.1 ++ z.1.2.2).Perm (y0::Y0)/\Srt cf z.1.2.1/\OwA hY 5 259 b c k0 (P ++ z.1.2.1 ++ z.1.2.2 ++ Q) z.2) (fun z=>[(8,int (z.1.1:Int))]) (fun z=>[z.2]) (fun z=>z.1.2.2.length) fT ⟨rfl,by simp,by simp,by simp,hO.cast (by simp)⟩ fP fK ?_
 rintro ⟨⟨i,⟨S,R⟩⟩,σ1⟩ ⟨hi,hS0,hp,hS,hO1⟩
 dsimp only at hi hS0 hp hS hO1 ⊢
 have hpl:=hp.length_eq
 rw [aB,aS] at hpl
 cases R with
 | nil =>
  rw [cW] at hpl;refine Acx ?_
  exact BJ (gY rfl) fQ fK ⟨rfl,S,σ1,by simpa using hp,hS,hO1.cast (by simp),rfl⟩
 | cons e R =>
 rw [aS] at hpl;refine Aav ?_;refine Acp ?_;refine Aa5 ?_;refine AM ?_
 refine BE [0,1,2,3,8] (X:=(Nat × (List Hd × List Hd)) × PH) ((i,(S,[])),σ1) (fun z=>z.1.1=a+z.1.2.1.length/\z.1.2.1 ++ z.1.2.2=S/\(∀ y,z.1.2.2.head?=some y->cf e y<=0)/\OwA hY 5 259 b c k0 (P ++ z.1.2.1 ++ e::z.1.2.2 ++ R ++ Q) z.2) (fun z=>[(9,int (z.1.1:Int))]) (fun z=>[z.2]) (fun z=>z.1.2.1.length) fT ⟨hi,by simp,by simp,hO1.cast (by simp)⟩ fP fK ?_
 rintro ⟨⟨j,⟨A,B⟩⟩,σ2⟩ ⟨hj,hAB,hB,hO2⟩
 dsimp only at hj hAB hB hO2 ⊢
 have hABl:A.length+B.length=S.length:=by rw [← hAB,aB]
 rcases List.eq_nil_or_concat A with rfl|⟨A1,z,rfl⟩
 ·rw [cW] at hj hABl
  refine AC ?_;refine AC ?_
  refine A9 P4Z [] rfl (by kernel_rfl) fK ?_
  refine Aa0 ?_;refine DO ?_;refine Adq ?_;refine Abw ?_;refine BS ?_;refine BC ?_;refine Aaz ?_;refine Ack ?_
  refine AZ ((i+1,(e::B,R)),σ2) ⟨?_,by simp,?_,?_,hO2.cast (by simp)⟩ (by dsimp only; rw [aS]; omega) fP fK
  ·dsimp only; rw [aS]; omega
  ·dsimp only
   rw [← hAB] at hp;refine List.Perm.trans ?_ hp;simp only [aH,aG];exact List.perm_middle.symm
  ·dsimp only
   have:=wA hc (A:=[]) (B:=B) (e:=e) (by rw [hAB]; exact hS) (by simp) hB
   simpa using this
 ·rw [List.concat_eq_append] at hAB hj hO2 hABl ⊢
  rw [aB,bM] at hj hABl
  obtain ⟨jj,rfl⟩:∃ jj,j=jj+1:=⟨a+A1.length,by omega⟩
  have hO3:OwA hY 5 259 b c k0 ((P ++ A1) ++ z::e::(B ++ R ++ Q)) σ2:=hO2.cast (by simp)
  have r1:=hO3.row gM (i:=jj+1) (x:=e) (xZ (by rw [aB]; omega))
  have r2:=hO3.row gM (i:=jj+1-1) (x:=z) (xY (by rw [aB]; omega))
  have hcc:=hcf e z
  obtain ⟨cv,hcv⟩:∃ cv,cf e z=cv:=⟨_,rfl⟩
  rw [hcv] at hcc;refine AC ?_;refine AC ?_
  refine A9 (.q 0 (.q 1 (.q 2 (.q 3 (.q 4 (.q 5 (.q 6 (.q 7 (.q 8 (.q 9 (.q 10 (.q 11 (.q 12 (.q 13 (.l 14 .e (.q 15 (.q 16 .nil))))))))))))))))) [] rfl (by kernel_rfl) fK ?_
  refine Aa0 ?_;refine FE ?_;refine Aa0 ?_;refine Acl ?_;refine Adk ?_;refine Abl ?_;refine BZ (BQ rfl hcc rfl rfl rdZ rfl rfl ?_);rintro _ rfl
  by_cases hlt:cv<0
  ·refine D8 ?_
   refine BU ?_;refine BC ?_;refine Aau ?_
   refine A9 (.q 0 (.q 1 (.p 2 (.p 3 (.p 4 (.q 5 (.q 6 (.q 7 (.q 8 (.q 9 (.q 10 (.q 11 (.q 12 (.q 13 (.q 14 (.l 15 .b (.q 16 (.l 17 .b .nil)))))))))))))))))) [] rfl (by kernel_rfl) fK ?_
   refine Aa0 ?_;refine CG ?_;refine CG ?_;refine DV ?_;refine Adk ?_;refine Adi ?_;refine Ada ?_;refine' D7 rfl _ rfl rfl _ _
   rotate_left
   ·exact CO gM (a:=z) (jj+1) hO3 rfl rfl rfl (by unfold hY; exact iF) rfl fL (by omega)
   ·rintro _ _ ⟨_,_,_,rfl⟩ w hw; exact hw.sel fK
   rintro _ _ ⟨rfl,σ3,hO4,rfl⟩;refine Ada ?_;refine' D7 rfl _ rfl rfl _ _
   rotate_left
   ·exact CO gM (a:=e) (jj+1-1) hO4 rfl rfl rfl (by unfold hY; exact iF) rfl fL (by omega)
   ·rintro _ _ ⟨_,_,_,rfl⟩ w hw; exact hw.sel fK
   rintro _ _ ⟨rfl,σ4,hO5,rfl⟩;refine BC ?_;refine Aay ?_;refine AB ?_;refine B6 ?_;refine Aaa ?_
   rw [aGm (by rw [aB]; omega) (by rw [aB]; omega)] at hO5
   refine AZ ((jj,(A1,z::B)),σ4) ⟨by dsimp only; omega,by dsimp only; rw [← hAB]; simp,?_,hO5.cast (by simp)⟩ (by dsimp only; rw [aB,bM]; omega) fP fK
   dsimp only
   intro y hy
   simp only [List.head?_cons,aD] at hy;subst hy;omega
  ·refine C4 ?_
   refine BU ?_;refine BC ?_;refine Aaz ?_;refine Ack ?_
   have hze:cf z e<=0:=hc.tot (by omega)
   refine AZ ((i+1,(A1 ++ [z] ++ e::B,R)),σ2) ⟨?_,by dsimp only; simp only [aB,aS,cW]; omega,?_,?_,hO2.cast (by simp)⟩ (by dsimp only; rw [aS]; omega) fP fK
   ·dsimp only; simp only [aB,aS,cW]; omega
   ·dsimp only
    rw [← hAB] at hp;refine List.Perm.trans ?_ hp
    have:(A1 ++ [z] ++ e::(B ++ R)).Perm (e::(A1 ++ [z] ++ (B ++ R))):=eT
    simp only [aR,aG,aH] at this ⊢;refine this.trans ?_
    have h2:(e::(A1 ++ z::(B ++ R))).Perm (A1 ++ z::(B ++ e::R)):=by
     have h3:(A1 ++ z::B ++ e::R).Perm (e::(A1 ++ z::B ++ R)):=eT
     simpa using h3.symm
    exact h2
   ·dsimp only
    refine wA hc (by rw [hAB]; exact hS) (fun x hx=>?_) hB
    simp at hx
    subst hx;exact hze
theorem aCk {cf:Hd->Hd->Int} (hc:Cmp cf) (fn:Value) (hcf:∀ x y:Hd,Ans Tryz.prog fn [.agg #[int x.n,int x.a,int x.b,int x.s,int x.k],.agg #[int y.n,int y.a,int y.b,int y.s,int y.k]] [] (fun r=>r=int (cf x y))) (k0 b c:Nat) (hl:k0<=1000000):∀ (d:Nat) (P U V Q:List Hd) (a m bb:Nat) (σ:PH),U.length+V.length<=d->OwA hY 5 259 b c k0 (P ++ U ++ V ++ Q) σ->P.length=a->a+U.length=m->m+V.length=bb->0<U.length->0<V.length->Srt cf U->Srt cf V ->
  Eng.Spec Tryz.prog (fv 261) [.slice (some ⟨b,0,none⟩) k0 c,int (a:Int),int (m:Int),int (bb:Int),fn] [] [σ] (fun r H'=>r=.tuple #[]/\∃ W σ',W.Perm (U ++ V)/\Srt cf W/\OwA hY 5 259 b c k0 (P ++ W ++ Q) σ'/\H'=[σ']):=by
 intro d
 induction d with
 | zero=>intro P U V Q a m bb σ hd _ _ _ _ h1; omega
 | succ d ih =>
 intro P U V Q a m bb σ hd hO ha hm hb h1 h2 hU hV
 have hln:bb+Q.length=k0:=by rw [← hO.1]; simp only [aB]; omega
 refine A8 Tryz.func261 Tryz.ntmps261 fun N β=>?_
 by_cases hu1:U.length=1
 ·clear ih
  obtain ⟨u,rfl⟩:=eY.1 hu1
  rw [bM] at hm hd;subst hm
  have ra:=hO.row gM (i:=a) (x:=u) (aPg ha (aK _) (by simp))
  refine Ad8 ?_;refine CJ ?_;refine Acu ?_;refine Aa5 ?_;refine Aap ?_
  refine BE [0,1,2,3,4] (X:=Nat × Nat) (a+1,bb) (fun z=>a+1<=z.1/\z.1<=z.2/\z.2<=bb/\(∀ y,a+1<z.1->V[z.1-1-(a+1)]?=some y->cf y u<=0)/\(∀ y,z.2<bb->V[z.2-(a+1)]?=some y->cf u y<=0)) (fun z=>[(10,int (z.1:Int)),(11,int (z.2:Int))]) (fun _=>[σ]) (fun z=>z.2-z.1) fT ⟨aK _,by dsimp only; omega,aK _,fun y h=>absurd h (dS _),fun y h=>absurd h (dS _)⟩ fP fK ?_
  rintro ⟨i,j⟩ ⟨g1,g2,g3,g4,g5⟩
  dsimp only at g1 g2 g3 g4 g5 ⊢
  by_cases hlt:i<j
  ·obtain ⟨h,hh⟩:∃ h,(i+j) / 2=h:=⟨_,rfl⟩
   obtain ⟨y,hy⟩:∃ y,V[h-(a+1)]?=some y:=⟨_,aA (by omega)⟩
   have rh:=hO.row gM (i:=h) (x:=y) (aPh (m:=a+1) (by rw [bM]; omega) (by omega) hy)
   have hcc:=hcf y u
   obtain ⟨cv,hcv⟩:∃ cv,cf y u=cv:=⟨_,rfl⟩
   rw [hcv] at hcc;refine Aeu ?_;refine Adh ?_
   rw [show (i:Int)+(j:Int)=((i+j:Nat):Int) from by omega]
   focus ((refine' CN _ rfl rfl rfl _; rotate_left; (apply E3; exact rfl; exact rfl; exact rfl; omega)))
   focus ((refine' CN _ rfl rfl rfl _; rotate_left; (apply DE; exact rfl; exact rfl; decide)))
   refine DD ?_;refine Aba ?_;rw [hh]
   refine A9 (.q 0 (.q 1 (.q 2 (.q 3 (.q 4 (.q 5 (.q 6 (.q 7 (.q 8 (.l 9 .e (.q 10 .nil))))))))))) [] rfl (by kernel_rfl) fK ?_
   refine Adc ?_;refine Adi ?_;refine BZ (BQ rfl hcc rfl rfl rdZ rfl rfl ?_);rintro _ rfl
   by_cases hcl:cv<0
   ·refine D8 ?_
    refine Ad6 ?_;refine Ab8 ?_;refine BB ?_
    refine AZ (h+1,j) ⟨by dsimp only; omega,by dsimp only; omega,g3,fun z hz e=>?_,g5⟩ (by dsimp only; omega) fP fK
    dsimp only at hz e
    rw [show h+1-1-(a+1)=h-(a+1) by omega,hy] at e
    obtain rfl:=Option.some.inj e
    omega
   ·refine C4 ?_
    refine Aby ?_;refine Ad ?_;refine Acq ?_
    refine AZ (i,h) ⟨g1,by dsimp only; omega,by dsimp only; omega,g4,fun z hz e=>?_⟩ (by dsimp only; omega) fP fK
    dsimp only at hz e
    rw [hy] at e
    obtain rfl:=Option.some.inj e
    exact hc.tot (by omega)
  have hij:i=j:=by omega
  subst hij;refine Acx ?_;refine Aag ?_;refine Aaa ?_;refine AM ?_
  have hO0:OwA hY 5 259 b c k0 (shF P u V Q 0) σ:=hO.cast (by simp [shF])
  refine BE [0,1,2,3,4,10] (X:=Nat × PH) (0,σ) (fun z=>z.1<=i-(a+1)/\OwA hY 5 259 b c k0 (shF P u V Q z.1) z.2) (fun z=>[(13,int ((a+z.1:Nat):Int))]) (fun z=>[z.2]) (fun z=>i-(a+1)-z.1) fT ⟨cA _,hO0⟩ fP fK ?_
  rintro ⟨k,σ1⟩ ⟨hk,hO1⟩
  dsimp only at hk hO1 ⊢
  by_cases hlt2:k<i-(a+1)
  ·obtain ⟨y,F,G,e1,e2,e3⟩:=wB (P:=P) (u:=u) (Q:=Q) (show k<V.length by omega)
   rw [e1] at hO1
   have r1:=hO1.row gM (i:=a+k) (x:=u) (xY (by omega))
   have r2:=hO1.row gM (i:=a+k+1) (x:=y) (xZ (by omega))
   refine Aav ?_;refine B6 ?_;refine Acp ?_
   refine A9 (.q 0 (.q 1 (.p 2 (.p 3 (.p 4 (.q 5 (.q 6 (.q 7 (.q 8 (.q 9 (.q 10 (.q 11 (.q 12 (.q 13 (.q 14 (.l 15 .b (.q 16 (.l 17 .b .nil)))))))))))))))))) [] rfl (by kernel_rfl) fK ?_
   refine Aa0 ?_;refine CG ?_;refine CG ?_;refine GQ ?_;refine Aa0 ?_;refine FJ ?_;refine Adi ?_;refine Ada ?_;refine' D7 rfl _ rfl rfl _ _
   rotate_left
   ·exact CO gM (a:=y) (a+k) hO1 rfl rfl rfl (by unfold hY; exact iF) rfl fL (by omega)
   ·rintro _ _ ⟨_,_,_,rfl⟩ w hw; exact hw.sel fK
   rintro _ _ ⟨rfl,σ2,hO2,rfl⟩;refine Ada ?_;refine' D7 rfl _ rfl rfl _ _
   rotate_left
   ·exact CO gM (a:=u) (a+k+1) hO2 rfl rfl rfl (by unfold hY; exact iF) rfl fL (by omega)
   ·rintro _ _ ⟨_,_,_,rfl⟩ w hw; exact hw.sel fK
   rintro _ _ ⟨rfl,σ3,hO3,rfl⟩;refine BC ?_;refine Ack ?_
   rw [aTi (by omega),← e2] at hO3
   exact AZ (k+1,σ3) ⟨by dsimp only; omega,hO3⟩ (by dsimp only; omega) fP fK
  ·have hke:k=i-(a+1):=by omega
   subst hke;refine Aav ?_;refine B6 ?_;refine Ab5 ?_
   obtain ⟨W,e1,e2,e3⟩:=wC (P:=P) (u:=u) (V:=V) (Q:=Q) (i-(a+1))
   rw [e1] at hO1
   refine A2 (gY rfl) fQ fK ⟨rfl,W,σ1,by simpa using e2,?_,hO1,rfl⟩
   rw [e3]
   refine aGn hc (by omega) hV (fun y h0 hy=>g4 y (by omega) ?_) (fun y hy=>g5 y ?_ hy)
   ·rw [show i-1-(a+1)=i-(a+1)-1 by omega]; exact hy
   ·have:=(aC.1 hy).1; omega
 by_cases hv1:V.length=1
 ·clear ih
  obtain ⟨v,rfl⟩:=eY.1 hv1
  rw [bM] at hb hd;subst hb
  have rm:=hO.row gM (i:=m) (x:=v) (aPh (m:=m) (by omega) (aK _) (by simp))
  refine Ad8 ?_;refine Acy ?_;refine Ad8 ?_;refine CJ ?_;refine Acu ?_;refine Aa5 ?_;refine Aap ?_
  refine BE [0,1,2,3,4] (X:=Nat × Nat) (a,m) (fun z=>a<=z.1/\z.1<=z.2/\z.2<=m/\(∀ x,a<z.1->U[z.1-1-a]?=some x->cf x v<=0)/\(∀ x,z.2<m->U[z.2-a]?=some x->cf v x<=0)) (fun z=>[(14,int (z.1:Int)),(15,int (z.2:Int))]) (fun _=>[σ]) (fun z=>z.2-z.1) fT ⟨aK _,by dsimp only; omega,aK _,fun y h=>absurd h (dS _),fun y h=>absurd h (dS _)⟩ fP fK ?_
  rintro ⟨i,j⟩ ⟨g1,g2,g3,g4,g5⟩
  dsimp only at g1 g2 g3 g4 g5 ⊢
  by_cases hlt:i<j
  ·obtain ⟨h,hh⟩:∃ h,(i+j) / 2=h:=⟨_,rfl⟩
   obtain ⟨x,hx⟩:∃ x,U[h-a]?=some x:=⟨_,aA (by omega)⟩
   have rh:=hO.row gM (i:=h) (x:=x) (aPg ha (by omega) hx)
   have hcc:=hcf v x
   obtain ⟨cv,hcv⟩:∃ cv,cf v x=cv:=⟨_,rfl⟩
   rw [hcv] at hcc;refine Aeu ?_;refine Adh ?_
   rw [show (i:Int)+(j:Int)=((i+j:Nat):Int) from by omega]
   focus ((refine' CN _ rfl rfl rfl _; rotate_left; (apply E3; exact rfl; exact rfl; exact rfl; omega)))
   focus ((refine' CN _ rfl rfl rfl _; rotate_left; (apply DE; exact rfl; exact rfl; decide)))
   refine DD ?_;refine Aba ?_;rw [hh]
   refine A9 (.q 0 (.q 1 (.q 2 (.q 3 (.q 4 (.q 5 (.q 6 (.q 7 (.q 8 (.l 9 .e (.q 10 (.q 11 .nil)))))))))))) [] rfl (by kernel_rfl) fK ?_
   refine Adc ?_;refine Adi ?_;refine BZ (BQ rfl hcc rfl rfl rdZ rfl rfl ?_);rintro _ rfl
   by_cases hcl:cv<0
   ·refine D8 ?_
    refine CZ ?_;refine Aby ?_;refine Ad ?_;refine Acq ?_
    refine AZ (i,h) ⟨g1,by dsimp only; omega,by dsimp only; omega,g4,fun z hz e=>?_⟩ (by dsimp only; omega) fP fK
    dsimp only at hz e
    rw [hx] at e
    obtain rfl:=Option.some.inj e
    omega
   ·refine C4 ?_
    refine CZ ?_;refine Ad6 ?_;refine Ab8 ?_;refine BB ?_
    refine AZ (h+1,j) ⟨by dsimp only; omega,by dsimp only; omega,g3,fun z hz e=>?_,g5⟩ (by dsimp only; omega) fP fK
    dsimp only at hz e
    rw [show h+1-1-a=h-a by omega,hx] at e
    obtain rfl:=Option.some.inj e
    exact hc.tot (by omega)
  have hij:i=j:=by omega
  subst hij;refine Acx ?_;refine Aag ?_;refine Aaa ?_;refine AM ?_
  have hO0:OwA hY 5 259 b c k0 (shF P v U Q U.length) σ:=hO.cast (by simp [shF])
  refine BE [0,1,2,3,4,14] (X:=(Nat × Nat) × PH) ((m,U.length),σ) (fun z=>z.1.1=a+z.1.2/\i-a<=z.1.2/\z.1.2<=U.length/\OwA hY 5 259 b c k0 (shF P v U Q z.1.2) z.2) (fun z=>[(17,int (z.1.1:Int))]) (fun z=>[z.2]) (fun z=>z.1.2) fT ⟨by dsimp only; omega,by dsimp only; omega,aK _,hO0⟩ fP fK ?_
  rintro ⟨⟨p,k⟩,σ1⟩ ⟨hp,hk1,hk2,hO1⟩
  dsimp only at hp hk1 hk2 hO1 ⊢
  by_cases hlt2:i-a<k
  ·obtain ⟨kk,rfl⟩:∃ kk,k=kk+1:=⟨k-1,by omega⟩
   obtain ⟨pp,rfl⟩:∃ pp,p=pp+1:=⟨p-1,by omega⟩
   obtain ⟨x,F,G,e1,e2,e3⟩:=wB (P:=P) (u:=v) (Q:=Q) (show kk<U.length by omega)
   rw [e2] at hO1
   have r1:=hO1.row gM (i:=pp+1-1) (x:=x) (xY (by omega))
   have r2:=hO1.row gM (i:=pp+1) (x:=v) (xZ (by omega))
   refine Aav ?_;refine Adt ?_;refine Aat ?_
   refine A9 (.q 0 (.q 1 (.p 2 (.p 3 (.p 4 (.q 5 (.q 6 (.q 7 (.q 8 (.q 9 (.q 10 (.q 11 (.q 12 (.q 13 (.q 14 (.l 15 .b (.q 16 (.l 17 .b .nil)))))))))))))))))) [] rfl (by kernel_rfl) fK ?_
   refine Aa0 ?_;refine CG ?_;refine CG ?_;refine DV ?_;refine Adk ?_;refine Adi ?_;refine Ada ?_;refine' D7 rfl _ rfl rfl _ _
   rotate_left
   ·exact CO gM (a:=x) (pp+1) hO1 rfl rfl rfl (by unfold hY; exact iF) rfl fL (by omega)
   ·rintro _ _ ⟨_,_,_,rfl⟩ w hw; exact hw.sel fK
   rintro _ _ ⟨rfl,σ2,hO2,rfl⟩;refine Ada ?_;refine' D7 rfl _ rfl rfl _ _
   rotate_left
   ·exact CO gM (a:=v) (pp+1-1) hO2 rfl rfl rfl (by unfold hY; exact iF) rfl fL (by omega)
   ·rintro _ _ ⟨_,_,_,rfl⟩ w hw; exact hw.sel fK
   rintro _ _ ⟨rfl,σ3,hO3,rfl⟩;refine BC ?_;refine Aay ?_;refine AB ?_;refine B6 ?_;refine Aaa ?_
   rw [aGm (by omega) (by omega),← e1] at hO3
   exact AZ ((pp,kk),σ3) ⟨by dsimp only; omega,by dsimp only; omega,by dsimp only; omega,hO3⟩ (by dsimp only; omega) fP fK
  ·have hke:k=i-a:=by omega
   subst hke;refine Aav ?_;refine B7 ?_;refine Aa7 ?_
   obtain ⟨W,e1,e2,e3⟩:=wC (P:=P) (u:=v) (V:=U) (Q:=Q) (i-a)
   rw [e1] at hO1;refine A2 (gY rfl) fQ fK ⟨rfl,W,σ1,e2.trans (List.perm_append_singleton v U).symm,?_,hO1,rfl⟩;rw [e3]
   refine aGn hc (by omega) hU (fun y h0 hy=>g4 y (by omega) ?_) (fun y hy=>g5 y ?_ hy)
   ·rw [show i-1-a=i-a-1 by omega]; exact hy
   ·have:=(aC.1 hy).1; omega
 refine Ad8 ?_;refine Acy ?_;refine Ad8 ?_;refine Acy ?_;refine Adh ?_
 rw [show (a:Int)+(bb:Int)=((a+bb:Nat):Int) from by omega]
 focus ((refine' CN _ rfl rfl rfl _; rotate_left; (apply E3; exact rfl; exact rfl; exact rfl; omega)))
 focus ((refine' CN _ rfl rfl rfl _; rotate_left; (apply DE; exact rfl; exact rfl; decide)))
 refine DD ?_;refine Aaa ?_
 obtain ⟨mid,hmid⟩:∃ mid,(a+bb) / 2=mid:=⟨_,rfl⟩
 rw [hmid];refine Adh ?_;refine Aaa ?_
 rw [show (mid:Int)+(m:Int)=((mid+m:Nat):Int) from by omega]
 refine Adl ?_;refine AC ?_
 refine DG (X:=Nat × Nat) [0,1,2,3,4,18,19] (fun z=>z=(if mid<m then (mid+m-bb,mid) else (a,m))) (fun z=>[(20,int (z.1:Int)),(21,int (z.2:Int))]) (fun _=>[σ]) fT ?_ ?_
 ·by_cases hmm:mid<m
  ·refine AC ?_
   refine Abu ?_;refine Adt ?_;refine Aaw ?_;refine CC ?_;refine Aaa ?_;refine Ad ?_;refine Aaa ?_
   rw [show ((mid+m:Nat):Int)-(bb:Int)=((mid+m-bb:Nat):Int) from by omega]
   skip
   exact CK (mid+m-bb,mid) (by rw [if_pos hmm]) fP fK
  ·refine AC ?_
   refine Abu ?_;refine B7 ?_;refine Aae ?_;refine Aa5 ?_;refine Ad ?_;refine Aaa ?_
   exact CK (a,m) (by rw [if_neg hmm]) fP fK
 rintro ⟨lo,hi⟩ hz
 dsimp only
 have hlo:a<=lo/\lo<=hi/\hi<=mid/\hi<=m/\(lo=a\/mid-lo=V.length)/\(hi=mid\/hi=m)/\mid<=lo+V.length:=by
  split at hz <;> (simp only [Prod.mk.injEq] at hz; omega)
 clear hz
 obtain ⟨q1,q2,q3,q4,q5,q6,q7⟩:=hlo
 refine Aab ?_;refine B6 ?_;refine Aaa ?_;refine Aap ?_
 refine BE [0,1,2,3,4,18,19,22] (X:=Nat × Nat) (lo,hi) (fun z=>lo<=z.1/\z.1<=z.2/\z.2<=hi/\(∀ x y,lo<z.1->U[z.1-1-a]?=some x->V[mid-z.1]?=some y->cf x y<=0)/\(∀ x y,z.2<hi->V[mid-z.2-1]?=some x->U[z.2-a]?=some y->cf x y<=0)) (fun z=>[(20,int (z.1:Int)),(21,int (z.2:Int))]) (fun _=>[σ]) (fun z=>z.2-z.1) fT ⟨aK _,q2,aK _,fun x y h=>absurd h (dS _),fun x y h=>absurd h (dS _)⟩ fP fK ?_
 rintro ⟨st,r⟩ ⟨g1,g2,g3,g4,g5⟩
 dsimp only at g1 g2 g3 g4 g5 ⊢
 by_cases hlt:st<r
 ·clear ih
  obtain ⟨h,hh⟩:∃ h,(st+r) / 2=h:=⟨_,rfl⟩
  obtain ⟨x,hx⟩:∃ x,U[h-a]?=some x:=⟨_,aA (by omega)⟩
  obtain ⟨y,hy⟩:∃ y,V[mid-h-1]?=some y:=⟨_,aA (by omega)⟩
  have rh:=hO.row gM (i:=h) (x:=x) (aPg ha (by omega) hx)
  have rv:=hO.row gM (i:=mid+m-1-h) (x:=y) (aPh (m:=m) (by omega) (by omega) (by rw [show mid+m-1-h-m=mid-h-1 by omega]; exact hy))
  have hcc:=hcf y x
  obtain ⟨cv,hcv⟩:∃ cv,cf y x=cv:=⟨_,rfl⟩
  rw [hcv] at hcc;refine Aeu ?_;refine Adh ?_
  rw [show (st:Int)+(r:Int)=((st+r:Nat):Int) from by omega]
  focus ((refine' CN _ rfl rfl rfl _; rotate_left; (apply E3; exact rfl; exact rfl; exact rfl; omega)))
  focus ((refine' CN _ rfl rfl rfl _; rotate_left; (apply DE; exact rfl; exact rfl; decide)))
  refine DD ?_;refine Aba ?_;rw [hh]
  refine A9 (.q 0 (.q 1 (.q 2 (.q 3 (.q 4 (.q 5 (.q 6 (.q 7 (.q 8 (.q 9 (.q 10 (.l 11 .e (.q 12 (.q 13 .nil)))))))))))))) [] rfl (by kernel_rfl) fK ?_
  refine Aa0 ?_;refine Aa0 ?_;refine ES ?_
  rw [show ((mid+m-1:Nat):Int)-(h:Int)=((mid+m-1-h:Nat):Int) from by omega]
  refine Adi ?_;refine BZ (BQ rfl hcc rfl rfl rdZ rfl rfl ?_);rintro _ rfl
  by_cases hcl:cv<0
  ·refine D8 ?_
   refine CZ ?_;refine Aby ?_;refine Ad ?_;refine Acq ?_
   refine AZ (st,h) ⟨g1,by dsimp only; omega,by dsimp only; omega,g4,fun z1 z2 hz e1 e2=>?_⟩ (by dsimp only; omega) fP fK
   dsimp only at hz e1 e2
   rw [hy] at e1;rw [hx] at e2
   obtain rfl:=Option.some.inj e1
   obtain rfl:=Option.some.inj e2
   omega
  ·refine C4 ?_
   refine CZ ?_;refine Ad6 ?_;refine Ab8 ?_;refine BB ?_
   refine AZ (h+1,r) ⟨by dsimp only; omega,by dsimp only; omega,g3,fun z1 z2 hz e1 e2=>?_,g5⟩ (by dsimp only; omega) fP fK
   dsimp only at hz e1 e2
   rw [show h+1-1-a=h-a by omega,hx] at e1
   rw [show mid-(h+1)=mid-h-1 by omega,hy] at e2
   obtain rfl:=Option.some.inj e1
   obtain rfl:=Option.some.inj e2
   exact hc.tot (by omega)
 have hst:st=r:=by omega
 subst hst
 have hok:=aTf hc hU hV (h:=mid-a) (s:=st-a) (by omega) (by omega) (by omega)
  (fun x y h0 e1 e2=>by
   rw [show mid-a-(st-a)=mid-st by omega] at e2
   by_cases hl2:lo<st
   ·exact g4 x y hl2 (by rw [show st-1-a=st-a-1 by omega]; exact e1) e2
   ·have:=(aC.1 e2).1; omega)
  (fun x y h0 e1 e2=>by
   rw [show mid-a-(st-a)-1=mid-st-1 by omega] at e1
   by_cases hl2:st<hi
   ·exact g5 x y hl2 e1 e2
   ·have:=(aC.1 e2).1; omega)
 rw [show mid-a-(st-a)=mid-st by omega] at hok
 have eU:=bH (st-a) U
 have eV:=bH (mid-st) V
 have lU1:(U.take (st-a)).length=st-a:=by rw [aL]; omega
 have lU2:(U.drop (st-a)).length=m-st:=by rw [cB]; omega
 have lV1:(V.take (mid-st)).length=mid-st:=by rw [aL]; omega
 have lV2:(V.drop (mid-st)).length=bb-m-(mid-st):=by rw [cB]; omega
 have pUV:((U.take (st-a) ++ V.take (mid-st)) ++ (U.drop (st-a) ++ V.drop (mid-st))).Perm (U ++ V):=by
  conv=>rhs; rw [← eU,← eV]
  simp only [aR];refine dD _ ?_;rw [← aR,← aR];exact eA _ cS
 have hO0:OwA hY 5 259 b c k0 (P ++ (U.take (st-a) ++ U.drop (st-a)) ++ (V.take (mid-st) ++ V.drop (mid-st)) ++ Q) σ:=by rw [eU,eV]; exact hO
 have sU1:Srt cf (U.take (st-a)):=hU.sublist (List.take_sublist _ _)
 have sU2:Srt cf (U.drop (st-a)):=hU.sublist (fF _ _)
 have sV1:Srt cf (V.take (mid-st)):=hV.sublist (List.take_sublist _ _)
 have sV2:Srt cf (V.drop (mid-st)):=hV.sublist (fF _ _)
 clear g4 g5 hO
 generalize U.take (st-a)=U1 at *
 generalize U.drop (st-a)=U2 at *
 generalize V.take (mid-st)=V1 at *
 generalize V.drop (mid-st)=V2 at *
 refine Acx ?_;refine Aaw ?_;refine CC ?_;refine Aaa ?_
 rw [show ((mid+m:Nat):Int)-(st:Int)=((mid+m-st:Nat):Int) from by omega]
 skip
 refine AC ?_
 refine DG (X:=PH) [0,1,2,3,4,18,20,24] (fun z=>OwA hY 5 259 b c k0 (P ++ U1 ++ V1 ++ U2 ++ V2 ++ Q) z) (fun _=>[]) (fun z=>[z]) fT ?_ ?_
 ·have nop:U2=[]\/V1=[]->OwA hY 5 259 b c k0 (P ++ U1 ++ V1 ++ U2 ++ V2 ++ Q) σ:=fun h=>hO0.cast (by rcases h with rfl|rfl <;> simp)
  by_cases c1:st<m
  ·by_cases c2:m<mid+m-st
   ·have hro:=aGq fn (P ++ U1) U2 V1 (V2 ++ Q) k0 b c st m (mid+m-st) σ (hO0.cast (by simp)) hl (by rw [aB]; omega) (by omega) (by omega) (by omega) (by omega)
    refine Aev ?_;refine BM ?_;refine Aci ?_;refine Aew ?_;refine BG hro rfl rfl fU rdZ rfl rfl ?_;rintro _ _ ⟨rfl,σ1,hO1,rfl⟩;refine AE ?_
    exact CK σ1 (hO1.cast (by simp)) fP fK
   ·refine AC ?_
    refine Abu ?_;refine Adm ?_;refine BD ?_;refine Adw ?_
    exact CK σ (nop (.inr (bW.1 (by omega)))) fP fK
  ·refine AC ?_
   refine Abu ?_;refine BD ?_;refine Acd ?_;refine Abe ?_
   exact CK σ (nop (.inl (bW.1 (by omega)))) fP fK
 rintro σ1 hO1;clear hO0;refine AC ?_
 refine DG (X:=List Hd × PH) [0,1,2,3,4,18,20,24] (fun z=>z.1.Perm (U1 ++ V1)/\Srt cf z.1/\OwA hY 5 259 b c k0 (P ++ z.1 ++ U2 ++ V2 ++ Q) z.2) (fun _=>[]) (fun z=>[z.2]) fT ?_ ?_
 ·have nop:U1=[]\/V1=[]->(U1 ++ V1).Perm (U1 ++ V1)/\Srt cf (U1 ++ V1)/\OwA hY 5 259 b c k0 (P ++ (U1 ++ V1) ++ U2 ++ V2 ++ Q) σ1:=fun h=>⟨List.Perm.refl _,by rcases h with rfl|rfl <;> simpa,hO1.cast (by simp)⟩
  by_cases c1:a<st
  ·by_cases c2:st<mid
   ·have hih:=ih P U1 V1 (U2 ++ V2 ++ Q) a st mid σ1 (by omega) (hO1.cast (by simp)) ha (by omega) (by omega) (by omega) (by omega) sU1 sV1
    refine Aev ?_;refine BM ?_;refine Aci ?_;refine Aew ?_;refine BG hih rfl rfl fU rdZ rfl rfl ?_;rintro _ _ ⟨rfl,W1,σ2,p1,s1,hO2,rfl⟩;refine AE ?_
    exact CK (W1,σ2) ⟨p1,s1,hO2.cast (by simp)⟩ fP fK
   ·refine AC ?_
    refine Abu ?_;refine Adm ?_;refine BD ?_;refine Adw ?_
    exact CK (U1 ++ V1,σ1) (nop (.inr (bW.1 (by omega)))) fP fK
  ·refine AC ?_
   refine Abu ?_;refine BD ?_;refine Acd ?_;refine Abe ?_
   exact CK (U1 ++ V1,σ1) (nop (.inl (bW.1 (by omega)))) fP fK
 rintro ⟨W1,σ2⟩ ⟨p1,s1,hO2⟩
 dsimp only at p1 s1 hO2 ⊢
 have lW1:=p1.length_eq
 rw [aB] at lW1
 have fin:∀ W2:List Hd,W2.Perm (U2 ++ V2)->Srt cf W2->(W1 ++ W2).Perm (U ++ V)/\Srt cf (W1 ++ W2):=fun W2 p2 s2=>⟨(List.Perm.append p1 p2).trans pUV,aCi hc s1 s2 p1 p2 hok⟩
 have nop:U2=[]\/V2=[]->Srt cf (U2 ++ V2):=fun h=>by rcases h with rfl|rfl <;> simpa
 by_cases c1:mid<mid+m-st
 ·by_cases c2:mid+m-st<bb
  ·have hih:=ih (P ++ W1) U2 V2 Q mid (mid+m-st) bb σ2 (by omega) (hO2.cast (by simp)) (by rw [aB]; omega) (by omega) (by omega) (by omega) (by omega) sU2 sV2
   refine Aev ?_;refine BM ?_;refine Aci ?_;refine Aew ?_;refine BG hih rfl rfl fU rdZ rfl rfl ?_;rintro _ _ ⟨rfl,W2,σ3,p2,s2,hO3,rfl⟩;refine AE ?_
   exact BJ (gY rfl) fQ fK ⟨rfl,W1 ++ W2,σ3,(fin W2 p2 s2).1,(fin W2 p2 s2).2,hO3.cast (by simp),rfl⟩
  ·have f:=fin (U2 ++ V2) (List.Perm.refl _) (nop (.inr (bW.1 (by omega))))
   refine Aev ?_;refine BD ?_;refine Adw ?_
   exact BJ (gY rfl) fQ fK ⟨rfl,W1 ++ (U2 ++ V2),σ2,f.1,f.2,hO2.cast (by simp),rfl⟩
 ·have f:=fin (U2 ++ V2) (List.Perm.refl _) (nop (.inl (bW.1 (by omega))))
  refine Aaw ?_;refine BD ?_;refine Acd ?_;refine Abe ?_
  exact BJ (gY rfl) fQ fK ⟨rfl,W1 ++ (U2 ++ V2),σ2,f.1,f.2,hO2.cast (by simp),rfl⟩
theorem aDg (v fn:Value):Ans Tryz.prog (fv 260) [v,int 0,int 0,fn] [] (fun r=>r=.tuple #[]):=by
 refine A8 Tryz.func260 Tryz.ntmps260 fun N β=>?_
 refine Aab ?_;refine CF ?_;refine Aaa ?_;refine AM ?_
 refine BE [0,1,2,3] (X:=Unit) () (fun _=>True) (fun _=>[(8,int 1)]) (fun _=>[]) (fun _=>0) fT trivial fP fK ?_
 rintro _ _;refine Acx ?_;exact BJ (gY rfl) fQ fK ⟨rfl,rfl⟩
theorem aDh (v fn:Value):Ans Tryz.prog (fv 206) [v,int 0,fn] [] (fun r=>r=.tuple #[]):=by
 refine A8 Tryz.func206 Tryz.ntmps206 fun N β=>?_
 refine Aam ?_;refine Aab ?_;refine Aaq ?_;refine Aap ?_
 refine BE [0,1,2,6] (X:=Unit) () (fun _=>True) (fun _=>[(7,int 0),(8,int 20)]) (fun _=>[]) (fun _=>0) fT trivial fP fK ?_
 rintro _ _;refine Aav ?_;refine DC ?_;refine Aa7 ?_;refine Aee ?_;refine A5 (aDg v fn) ?_;refine Ad3 ?_
 refine BE [0,1,2,6] (X:=Unit) () (fun _=>True) (fun _=>[]) (fun _=>[]) (fun _=>0) fT trivial fP fK ?_
 rintro _ _;refine Acx ?_;exact BJ (gY rfl) fQ fK ⟨rfl,rfl⟩
theorem aGr {cf:Hd->Hd->Int} (hc:Cmp cf) (fn:Value) (hcf:∀ x y:Hd,Ans Tryz.prog fn [.agg #[int x.n,int x.a,int x.b,int x.s,int x.k],.agg #[int y.n,int y.a,int y.b,int y.s,int y.k]] [] (fun r=>r=int (cf x y))) (l:List Hd) (n b c:Nat) (σ:PH) (hO:OwA hY 5 259 b c n l σ) (hl:n<=1000000) :
  Eng.Spec Tryz.prog (fv 206) [.slice (some ⟨b,0,none⟩) n c,int (n:Int),fn] [] [σ] (fun r H'=>r=.tuple #[]/\∃ l' σ',l'.Perm l/\Srt cf l'/\OwA hY 5 259 b c n l' σ'/\H'=[σ']):=by
 have hln:=hO.1
 refine A8 Tryz.func206 Tryz.ntmps206 fun N β=>?_
 refine Aam ?_;refine Aab ?_;refine Aaq ?_;refine Aap ?_
 refine BE [0,1,2,6] (X:=(Nat × (List Hd × List Hd)) × PH) ((0,([],l)),σ) (fun z=>Beg cf 20 z.1.2.1/\z.1.2.1.length=z.1.1/\(z.1.2.1 ++ z.1.2.2).Perm l/\OwA hY 5 259 b c n (z.1.2.1 ++ z.1.2.2) z.2) (fun z=>[(7,int (z.1.1:Int)),(8,int ((z.1.1+20:Nat):Int))]) (fun z=>[z.2]) (fun z=>z.1.2.2.length) fT ⟨Beg.nil,rfl,List.Perm.refl _,hO⟩ fP fK ?_
 rintro ⟨⟨a,⟨D,R⟩⟩,σ1⟩ ⟨hB,hD,hp,hO1⟩
 dsimp only at hB hD hp hO1 ⊢
 have hpl:=hp.length_eq
 rw [aB] at hpl
 by_cases hlt:a+20<=n
 ·have eR:=bH 20 R
  have l1:(R.take 20).length=20:=by rw [aL]; omega
  have l2:(R.drop 20).length=R.length-20:=cB
  rw [← eR] at hp hO1
  generalize R.take 20=R1 at *
  generalize R.drop 20=R2 at *
  have hins:=wF hc fn hcf D R1 R2 n b c a (a+20) σ1 (hO1.cast (by simp)) hl hD (by omega)
  refine Aav ?_;refine EA ?_;refine Aah ?_;refine Acr ?_;refine Aee ?_;refine BG hins rfl rfl fU rdZ rfl rfl ?_;rintro _ _ ⟨rfl,Y,σ2,pY,sY,hO2,rfl⟩
  have lY:=pY.length_eq
  refine AE ?_;refine Aa5 ?_;refine Abu ?_;refine CF ?_;refine Acq ?_
  rw [show ((a+20:Nat):Int)+20=((a+20+20:Nat):Int) from by omega]
  refine AZ ((a+20,(D ++ Y,R2)),σ2) ⟨hB.snoc (by omega) sY,by dsimp only; rw [aB]; omega,?_,hO2⟩ (by dsimp only; omega) fP fK
  dsimp only
  refine List.Perm.trans ?_ hp;rw [aR];exact dD _ (eA _ pY)
 refine Aav ?_;refine DC ?_;refine Aa7 ?_;refine Aee ?_
 have hins:=wF hc fn hcf D R [] n b c a n σ1 (hO1.cast (by simp)) hl hD (by omega)
 refine BG hins rfl rfl fU rdZ rfl rfl ?_;rintro _ _ ⟨rfl,Y,σ2,pY,sY,hO2,rfl⟩
 have lY:=pY.length_eq
 have hK0:Blk cf 20 (D ++ Y):=hB.done (by omega) sY
 have hP0:(D ++ Y).Perm l:=(dD _ pY).trans hp
 have hO3:OwA hY 5 259 b c n (D ++ Y) σ2:=hO2.cast (by simp)
 clear hO hO1 hO2 hB hp hins;refine Ad3 ?_
 refine BE [0,1,2] (X:=(Nat × List Hd) × PH) ((20,D ++ Y),σ2) (fun z=>Blk cf z.1.1 z.1.2/\0<z.1.1/\z.1.1<=2*n+20/\z.1.2.Perm l/\OwA hY 5 259 b c n z.1.2 z.2) (fun z=>[(6,int (z.1.1:Int))]) (fun z=>[z.2]) (fun z=>n-z.1.1) fT ⟨hK0,by dsimp only; omega,by dsimp only; omega,hP0,hO3⟩ fP fK ?_
 clear hK0 hP0 hO3;rintro ⟨⟨bs,L⟩,σ3⟩ ⟨hK,hb0,hb1,hp,hO⟩
 dsimp only at hK hb0 hb1 hp hO ⊢
 have hLl:=hO.1
 by_cases hlt2:bs<n
 rotate_left
 ·refine AC ?_
  refine Aaw ?_;refine Ab5 ?_
  exact BJ (gY rfl) fQ fK ⟨rfl,L,σ3,hp,hK.small (by omega) hb0,hO,rfl⟩
 refine Aeu ?_;refine Aab ?_;refine FN ?_;refine Aaq ?_;refine Aap ?_
 refine BE [0,1,2,6] (X:=(Nat × (List Hd × List Hd)) × PH) ((0,([],L)),σ3) (fun z=>Beg cf (2*bs) z.1.2.1/\z.1.2.1.length=z.1.1/\Blk cf bs z.1.2.2/\(z.1.2.1 ++ z.1.2.2).Perm l/\OwA hY 5 259 b c n (z.1.2.1 ++ z.1.2.2) z.2) (fun z=>[(7,int (z.1.1:Int)),(8,int ((z.1.1+2*bs:Nat):Int))]) (fun z=>[z.2]) (fun z=>z.1.2.2.length) fT ⟨Beg.nil,rfl,hK,hp,hO⟩ ?_ fK ?_
 ·rw [bZ]; exact fP
 clear hK hO hp;rintro ⟨⟨a,⟨D,R⟩⟩,σ4⟩ ⟨hB,hD,hK,hp,hO⟩
 dsimp only at hB hD hK hp hO ⊢
 have hpl:=hO.1
 rw [aB] at hpl
 by_cases hlt3:a+2*bs<=n
 ·obtain ⟨s1,_,h2⟩:=hK.two hb0 (by omega)
  obtain ⟨s2,k2⟩:=h2 (by omega)
  have eR:R.take bs ++ ((R.drop bs).take bs ++ R.drop (2*bs))=R:=by
   rw [show 2*bs=bs+bs by omega,← List.drop_drop,bH,bH]
  have l1:(R.take bs).length=bs:=by rw [aL]; omega
  have l2:((R.drop bs).take bs).length=bs:=by rw [aL,cB]; omega
  have l3:(R.drop (2*bs)).length=R.length-2*bs:=cB
  rw [← eR] at hp hO
  generalize R.take bs=U at *
  generalize (R.drop bs).take bs=V at *
  generalize R.drop (2*bs)=R2 at *
  have hsm:=aCk hc fn hcf n b c hl _ D U V R2 a (a+bs) (a+2*bs) σ4 (aK _) (hO.cast (by simp)) hD (by omega) (by omega) (by omega) (by omega) s1 s2
  refine Aav ?_;refine EA ?_;refine Aah ?_;refine Acr ?_;refine Aee ?_;refine CF ?_;refine Aal ?_
  rw [show (a:Int)+(bs:Int)=((a+bs:Nat):Int) from by omega]
  refine BG hsm rfl rfl fU rdZ rfl rfl ?_;rintro _ _ ⟨rfl,W,σ5,pW,sW,hO5,rfl⟩
  have lW:=pW.length_eq
  rw [aB] at lW;refine AE ?_;refine Aa5 ?_;refine Abu ?_;refine FN ?_;refine CF ?_;refine Acq ?_
  rw [show ((a+2*bs:Nat):Int)+((2*bs:Nat):Int)=((a+2*bs+2*bs:Nat):Int) from by omega]
  refine AZ ((a+2*bs,(D ++ W,R2)),σ5) ⟨hB.snoc (by omega) sW,by dsimp only; rw [aB]; omega,k2,?_,hO5⟩ (by dsimp only; omega) fP fK
  dsimp only
  refine List.Perm.trans ?_ hp;rw [aR];refine dD _ ?_;rw [← aR];exact eA _ pW
 refine Aav ?_;refine DC ?_;refine Aa7 ?_;refine Aav ?_;refine CF ?_;refine Adz ?_
 rw [show (a:Int)+(bs:Int)=((a+bs:Nat):Int) from by omega]
 by_cases hm:a+bs<n
 ·obtain ⟨s1,h2,_⟩:=hK.two hb0 (by omega)
  have s2:=h2 (by omega)
  have eR:R.take bs ++ R.drop bs=R:=bH _ _
  have l1:(R.take bs).length=bs:=by rw [aL]; omega
  have l2:(R.drop bs).length=R.length-bs:=cB
  rw [← eR] at hp hO
  generalize R.take bs=U at *
  generalize R.drop bs=V at *
  have hsm:=aCk hc fn hcf n b c hl _ D U V [] a (a+bs) n σ4 (aK _) (hO.cast (by simp)) hD (by omega) (by omega) (by omega) (by omega) s1 s2
  refine Ab0 ?_;refine Aew ?_;refine BG hsm rfl rfl fU rdZ rfl rfl ?_;rintro _ _ ⟨rfl,W,σ5,pW,sW,hO5,rfl⟩
  have lW:=pW.length_eq
  rw [aB] at lW;refine AE ?_;refine Ad ?_;refine EY ?_;refine Acq ?_
  rw [show (bs:Int)*2=((2*bs:Nat):Int) from by omega]
  exact AZ ((2*bs,D ++ W),σ5) ⟨hB.done (by omega) sW,by dsimp only; omega,by dsimp only; omega,(dD _ pW).trans hp,hO5.cast (by simp)⟩ (by dsimp only; omega) fP fK
 ·refine BD ?_
  refine Aai ?_;refine Ad ?_;refine EY ?_;refine Acq ?_
  rw [show (bs:Int)*2=((2*bs:Nat):Int) from by omega]
  exact AZ ((2*bs,D ++ R),σ4) ⟨hB.done (by omega) (hK.small (by omega) hb0),by dsimp only; omega,by dsimp only; omega,hp,hO⟩ (by dsimp only; omega) fP fK
theorem aGs {cf:Hd->Hd->Int} (hc:Cmp cf) (fn:Value) (hcf:∀ x y:Hd,Ans Tryz.prog fn [.agg #[int x.n,int x.a,int x.b,int x.s,int x.k],.agg #[int y.n,int y.a,int y.b,int y.s,int y.k]] [] (fun r=>r=int (cf x y))) (l:List Hd) (v:Value) (σ:PH) (hO:fS 259 5 v l.length (l.flatMap hY) σ) (hl:l.length<=1000000) :
  Eng.Spec Tryz.prog (fv 151) [v,fn] [] [σ] (fun r H'=>r=.tuple #[]/\∃ l' σ',l'.Perm l/\Srt cf l'/\fS 259 5 v l'.length (l'.flatMap hY) σ'/\H'=[σ']):=by
 refine A8 Tryz.func151 Tryz.ntmps151 fun N β=>?_
 rcases hO.block with ⟨rfl,rfl,rfl⟩|⟨b,cap,cur,rfl,_⟩
 ·refine AA ?_
  refine Aal ?_;refine A6 ?_;refine AB ?_;refine A5 (aDh _ fn) ?_;refine AE ?_;exact BJ (gY rfl) fQ fK ⟨rfl,[],emp,List.Perm.refl _,.nil,hO,rfl⟩
 ·have hst:=aGr hc fn hcf l l.length b cap σ ⟨rfl,hO⟩ hl
  refine Abu ?_;refine A6 ?_;refine AB ?_;refine BG hst rfl rfl fU rdZ rfl rfl ?_;rintro _ _ ⟨rfl,l',σ',p,s,hO',rfl⟩;refine AE ?_;refine BJ (gY rfl) fQ fK ⟨rfl,l',σ',p,s,?_,rfl⟩;rw [p.length_eq];exact hO'.2
end Go.Proofs.YtnijkofdlepfjaaGreat
namespace Go.Step
open Go.Sym
theorem aTl:Cmp qM:=by
  refine ⟨fun {x y z} h1 h2=>?_,fun {x y} h=>?_⟩
  · rw [rU] at *; omega
  · rw [aBx] at h
    rw [rU]; omega
theorem aW9:Cmp mY:=by
  refine ⟨fun {x y z} h1 h2=>aJa h1 h2,fun {x y} h=>?_⟩
  have:=xM x y
  omega
end Go.Step
namespace Go.Proofs.YtnijkofdlepfjaaGreat
open Go.Eng Go.Step
set_option maxRecDepth 100000
set_option maxHeartbeats 64000000
section
theorem aGt (x y:Bk):Ans Tryz.prog (fv 147) [.agg #[int x.c,int x.a,int x.b,int x.k],.agg #[int y.c,int y.a,int y.b,int y.k]] [] (fun r=>r=int (qM x y)):=by
 refine A8 Tryz.func147 Tryz.ntmps147 fun N β=>?_
 refine Aa ?_
 refine B8 fun b=>?_
 refine B8 fun b=>?_
 refine Aba ?_
 refine A9 (.q 0 (.q 1 (.q 2 (.q 3 (.q 5 (.q 6 (.q 7 (.q 8 (.l 4 .e (.l 9 .e (.l 10 .e (.l 11 .e (.q 12 .nil))))))))))))) [] rfl (by kernel_rfl) fK ?_
 refine Aeq ?_
 focus ((refine BZ (BQ rfl (gO _ _) rfl rfl rdZ rfl rfl ?_); rintro _ rfl))
 focus ((refine BZ (BQ rfl (gO _ _) rfl rfl rdZ rfl rfl ?_); rintro _ rfl))
 refine BY fun b=>?_
 revert b; intro bo
 refine BZ (BQ rfl (sL (sng bo _) _ [gZ x.c y.c,gZ x.a y.a] (oI Eng.encI_len) (by simp)) rfl rfl rdZ rfl rfl ?_)
 rintro _ rfl;refine Ac ?_
 skip
 exact AV ⟨rfl,rfl⟩
theorem aGu (x y:Bk):Ans Tryz.prog (fv 150) [.agg #[int x.c,int x.a,int x.b,int x.k],.agg #[int y.c,int y.a,int y.b,int y.k]] [] (fun r=>r=int (qM x y)):=by
 refine A8 Tryz.func150 Tryz.ntmps150 fun N β=>?_
 refine Aa ?_
 refine B8 fun b=>?_
 refine B8 fun b=>?_
 refine Aba ?_
 refine A9 (.q 0 (.q 1 (.q 2 (.q 3 (.q 5 (.q 6 (.q 7 (.q 8 (.l 4 .e (.l 9 .e (.l 10 .e (.l 11 .e (.q 12 .nil))))))))))))) [] rfl (by kernel_rfl) fK ?_
 refine Aeq ?_
 focus ((refine BZ (BQ rfl (gO _ _) rfl rfl rdZ rfl rfl ?_); rintro _ rfl))
 focus ((refine BZ (BQ rfl (gO _ _) rfl rfl rdZ rfl rfl ?_); rintro _ rfl))
 refine BY fun b=>?_
 revert b; intro bo
 refine BZ (BQ rfl (sL (sng bo _) _ [gZ x.c y.c,gZ x.a y.a] (oI Eng.encI_len) (by simp)) rfl rfl rdZ rfl rfl ?_)
 rintro _ rfl;refine Ac ?_
 skip
 exact AV ⟨rfl,rfl⟩
theorem aJ2 (x y:Hd):Ans Tryz.prog (fv 152) [.agg #[int x.n,int x.a,int x.b,int x.s,int x.k],.agg #[int y.n,int y.a,int y.b,int y.s,int y.k]] [] (fun r=>r=int (mY x y)):=by
 refine A8 Tryz.func152 Tryz.ntmps152 fun N β=>?_
 refine Aa ?_
 refine B8 fun b=>?_
 refine B8 fun b=>?_
 refine Aba ?_
 refine A9 (.q 0 (.q 1 (.q 2 (.q 3 (.q 5 (.q 6 (.q 7 (.q 8 (.q 10 (.q 11 (.q 12 (.q 13 (.q 15 (.q 16 (.q 17 (.q 18 (.q 20 (.q 21 (.q 22 (.q 23 (.l 4 .e (.l 9 .e (.l 14 .e (.l 19 .e (.l 24 .e (.l 25 .e (.l 26 .e (.q 27 .nil)))))))))))))))))))))))))))) [] rfl (by kernel_rfl) fK ?_
 refine Aeq ?_;refine Aeq ?_;refine Abj ?_
 focus ((refine BZ (BQ rfl (gO _ _) rfl rfl rdZ rfl rfl ?_); rintro _ rfl))
 focus ((refine BZ (BQ rfl (gO _ _) rfl rfl rdZ rfl rfl ?_); rintro _ rfl))
 focus ((refine BZ (BQ rfl (gO _ _) rfl rfl rdZ rfl rfl ?_); rintro _ rfl))
 focus ((refine BZ (BQ rfl (gO _ _) rfl rfl rdZ rfl rfl ?_); rintro _ rfl))
 focus ((refine BZ (BQ rfl (gO _ _) rfl rfl rdZ rfl rfl ?_); rintro _ rfl))
 refine BY fun b=>?_
 revert b; intro bo
 refine BZ (BQ rfl (sL (sng bo _) _ [gZ x.n y.n,gZ x.a y.a,gZ x.b y.b,gZ x.k y.k,gZ x.s y.s] (oI Eng.encI_len) (by simp)) rfl rfl rdZ rfl rfl ?_)
 rintro _ rfl;refine Ac ?_
 skip
 exact AV ⟨rfl,rfl⟩
theorem aL5 {lam:PH} {pv:Option Addr} {cv:Nat} {l:List Hp} (hv:SlE gE 4 lam (.slice pv l.length cv) l) (hl:l.length<=1000) (k:Int) :
  jM Tryz.prog (fv 79) [.slice pv l.length cv,int k] [lam] (fun r χ=>∃ bs:List Bk,bs.Perm (l.map (qJ k))/\fS 118 4 r bs.length (bs.flatMap gX) χ):=by
 obtain ⟨_,_,e,hrv⟩:=SlE.val gJ hv
 simp only [aN] at e
 obtain ⟨rfl,_,rfl⟩:=e
 refine A8 Tryz.func79 Tryz.ntmps79 fun N β=>?_
 refine B9 ?_;refine Aam ?_;refine Adf ?_
 refine BE [1,8,9] (X:=Nat × (Value × PH)) (0,(.slice none 0 0,emp)) (fun z=>z.1<=l.length/\fS 118 4 z.2.1 ((l.take z.1).map (qJ k)).length (((l.take z.1).map (qJ k)).flatMap gX) z.2.2) (fun z=>[(10,int (z.1:Int)),(5,z.2.1)]) (fun z=>[z.2.2]) (fun z=>l.length-z.1) fT ⟨cA _,fS.nil _ _⟩ fP fK ?_
 rintro ⟨i,u,σ⟩ ⟨hi,hO⟩
 dsimp only at hi hO ⊢
 have hu:=kL _ _ _ _ hO
 by_cases hlt:i<l.length
 ·have hx:=aA hlt
  have hnx:(l.take (i+1)).map (qJ k)=(l.take i).map (qJ k) ++ [qJ k l[i]]:=by rw [cV,hx,cX]; rfl
  have hlq:((l.take i).map (qJ k)).length<=1000:=by rw [aU,aL]; omega
  obtain ⟨bl,ol,rfl,hrd⟩:=hrv i _ hx
  generalize l[i]=h at hx hnx hrd
  generalize (l.take i).map (qJ k)=Q at hO hnx hlq
  obtain ⟨hc0,hb0,he0,ha0⟩:=h
  have hrd:RdN lam bl (ol+i*4) [int hc0,int hb0,int he0,int ha0]:=hrd
  refine Ab2 ?_
  refine A3 fun b=>?_
  refine Aa6 ?_;refine AA ?_;refine Abf ?_;refine Aac ?_;refine AB ?_;refine CB ?_
  refine BW fun b=>?_
  revert b; intro bn
  revert b; intro b7
  refine AW (ρ:=sng b7 _) fL ?_
  have bx178_3:=rdB b7 62 [int hc0,int hb0,int he0,int ha0]
  have z0:=rdC bx178_3 0
  have z1:=rdC bx178_3 1
  have z2:=rdC bx178_3 2
  skip
  refine CR (CA (by_:=32) (s:=4) (news:=[int hc0,int hb0,int he0,int k]) rfl rfl rfl rfl rfl rfl rfl hO fL (fR gN) rfl iF (by omega) (by simp only [maxLen]; omega) (by omega)) rfl rfl rfl ?_
  rintro u1 _ ⟨σ1,hO1,rfl⟩;refine Aaa ?_;refine Ad5 ?_
  refine AZ (i+1,(u1,σ1)) ⟨by dsimp only; omega,?_⟩ (by dsimp only; omega) fP fK
  dsimp only
  rw [hnx,aB,aX];exact hO1
 have hke:i=l.length:=by omega
 subst hke;rw [bJ] at hO;refine Abp ?_;refine Aab ?_
 refine BG (wE aTl (fv 147) aGt _ _ _ hO (by rw [aU]; omega)) rfl rfl fU rdZ rfl rfl ?_
 rintro _ _ ⟨rfl,bs,σ',hpb,hsb,hO2,rfl⟩;refine AE ?_;refine Aa5 ?_;exact AV ⟨σ',⟨bs,hpb,hO2⟩,rfl⟩
section
variable {ρ τ:PH} {pq pc:Option Addr} {kq kc:Nat} {qs:List Int} {cs:List Ct} {q:Rq}
theorem wG (hq:gC ρ (.slice pq qs.length kq) qs) (hc:jW τ (.slice pc cs.length kc) cs) (hcap:cs.length<=kc) (lq:qs.length<=9223372036854775807) (lc:cs.length<=9223372036854775807) (hp:gD qs cs=0) {h:Hp} {k:Nat} {c:Ct} (hi:cs[k]?=some c) (hk:h.c=k) (hb:0<=h.e/\h.e<=1099511627776) :
  Ans Tryz.prog (fv 149) [.agg #[.slice pq qs.length kq,.slice pc cs.length kc],.agg #[int q.src,int q.dst,int q.size,int q.rdy,int q.dln,int q.pri,.bool q.cus],.agg #[int h.c,int h.b,int h.e,int h.a]] [τ] (fun r=>r=int (jS cs q h)):=by
 have hck:=(chkPl_ct hp).2 c (aF hi)
 have hg:=mA hck.1
 have hil:=(aC.1 hi).1
 unfold jS;rw [hk,lZ hi]
 obtain ⟨hc0,hb0,he0,ha0⟩:=h
 dsimp only at hk hb ⊢
 subst hk
 obtain ⟨_,_,e,hrc⟩:=hc.val iU
 simp only [aN] at e
 obtain ⟨rfl,_,rfl⟩:=e
 obtain ⟨bq,oq,rfl,hrd⟩:=oC hrc hi
 have q5:rdc τ bq (oq+k*7+5)=some (int c.g):=hrd.get (j:=5) rfl
 obtain ⟨qsrc,qdst,qsz,qrdy,qdln,qpri,qcus⟩:=q
 dsimp only
 have hgen:∀ z,qcus=z->Ans Tryz.prog (fv 149) [.agg #[.slice pq qs.length kq,.slice (some ⟨bq,oq,none⟩) cs.length kc],.agg #[int qsrc,int qdst,int qsz,int qrdy,int qdln,int qpri,.bool z],.agg #[int (k:Int),int hb0,int he0,int ha0]] [τ] (fun r=>r=int (if z then he0+2*c.g else he0)):=by
  intro z _
  refine A8 Tryz.func149 Tryz.ntmps149 fun N β=>?_
  refine Aa ?_
  refine BF fun b3 bx244=>?_
  refine BF fun b4 bx246=>?_
  refine BF fun b5 bx248=>?_
  have cp1:=rdC bx244 1
  have cr6:=rdC bx246 6
  have ch0:=rdC bx248 0
  have ch2:=rdC bx248 2
  cases z with
  | true =>
   refine Ad1 ?_;refine Aah ?_;refine AC ?_
   refine A9 P0Z [] rfl (by kernel_rfl) fK ?_
   refine Abj ?_;refine Aaj ?_;refine Ael ?_;refine FO ?_;refine DP ?_;refine Ac ?_
   skip
   exact AV ⟨rfl,rfl⟩
  | false =>
   refine Ad1 ?_;refine Aai ?_;refine Aan ?_;refine Aaa ?_;exact AV ⟨rfl,rfl⟩
 exact hgen _ rfl
theorem aL6 (bF bO bN bQ bK:Nat) (f n k to:Int) (hft:f<to) (v:Value) (σ:PH) (D:List Hd) (hO:fS 259 5 v D.length (D.flatMap hY) σ) (hD:D.length<=100000) :
  Eng.Spec Tryz.prog (.func (.func 148) #[] #[.pointer (some ⟨bF,0,none⟩),.pointer (some ⟨bO,0,none⟩),.pointer (some ⟨bN,0,none⟩),.pointer (some ⟨bQ,0,none⟩),.pointer (some ⟨bK,0,none⟩)]) [int to] [sng bF (.cells #[int f] 3 (0,0)),sng bN (.cells #[int n] 3 (0,0)),sng bQ (.cells #[int q.src,int q.dst,int q.size,int q.rdy,int q.dln,int q.pri,.bool q.cus] 38 (0,0)),sng bK (.cells #[int k] 3 (0,0))] [sng bO (.cells #[v] 39 (0,0)),σ]
   (fun r H'=>r=.tuple #[]/\∃ v' σ',fS 259 5 v' (D ++ [(⟨n,f,to,q.size,k⟩:Hd)]).length ((D ++ [(⟨n,f,to,q.size,k⟩:Hd)]).flatMap hY) σ'/\H'=[sng bO (.cells #[v'] 39 (0,0)),σ']):=by
 have hu:=kL _ _ _ _ hO
 have bx300_3:=rdB bF 3 [int f]
 have cF:=rdC bx300_3 0
 have bx301_3:=rdB bN 3 [int n]
 have cN:=rdC bx301_3 0
 have bx302_3:=rdB bK 3 [int k]
 have cK:=rdC bx302_3 0
 have bx303_3:=rdB bQ 38 [int q.src,int q.dst,int q.size,int q.rdy,int q.dln,int q.pri,.bool q.cus]
 have cq2:=rdC bx303_3 2
 refine CU [.pointer (some ⟨bF,0,none⟩),.pointer (some ⟨bO,0,none⟩),.pointer (some ⟨bN,0,none⟩),.pointer (some ⟨bQ,0,none⟩),.pointer (some ⟨bK,0,none⟩)] Tryz.func148 Tryz.ntmps148 fun N β=>?_
 refine Abb ?_;refine AB ?_;refine Ab0 ?_;refine AA ?_;refine AF ?_;refine AF ?_;refine AF ?_;refine Aas ?_;refine AF ?_;refine CB ?_
 refine BW fun b=>?_
 revert b; intro bn
 refine CR (CA (by_:=40) (s:=5) (news:=[int n,int f,int to,int q.size,int k]) rfl rfl rfl rfl rfl rfl rfl hO fL (fR gN) rfl iF (by omega) (by simp only [maxLen]; omega) (by omega)) rfl rfl rfl ?_
 rintro u1 _ ⟨σ1,hO1,rfl⟩
 have hu1:=kL _ _ _ _ hO1
 refine Abx ?_;refine BJ (gY rfl) fQ fK ⟨rfl,u1,σ1,?_,rfl⟩;rw [aB,aX];exact hO1
end
end
theorem aXa:∀ (l:List Bk),∀ u∈l.flatMap gX,u.oneCell'=true:=fun l u hu=>by
 obtain ⟨x,_,hx⟩:=dB.1 hu
 simp only [gX,aE,bD,or_false] at hx
 rcases hx with rfl|rfl|rfl|rfl <;> rfl
end Go.Proofs.YtnijkofdlepfjaaGreat
