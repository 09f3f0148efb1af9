/- Texts of this proof, one after the other; no conditions. -/
import Derived.Test.YtglifndogffmkaaGreatWB4
import Derived.Test.YtglifndogffmkaaGreatWB2
import Derived.Test.YtglifndogffmkaaGreatWB7
import Derived.Test.YtglifndogffmkaaGreatWB5
import Derived.Test.YtglifndogffmkaaGreatWB3
import Derived.Test.YtglifndogffmkaaGreatWB6
set_option linter.all false
/- The library's stable sort of bookings. -/
namespace Go.Proofs.YtglifndogffmkaaGreat
open Go.Eng Go.Step Go.Sym
set_option maxRecDepth 100000
set_option maxHeartbeats 64000000
theorem swapRB_spec (fn:Value) (P A M B Q:List Bk) (n k0 b c:Nat) (σ:PH) (hA:A.length=n) (hB:B.length=n) (hO:OwA encB 4 158 b c k0 (P ++ A ++ M ++ B ++ Q) σ) (hl:k0≤1000000) (i j:Nat) (hi:P.length=i) (hj:i+n+M.length=j) :
  Eng.Spec Tryz.prog (fv 286) [.slice (some ⟨b,0,none⟩) k0 c,int (i:Int),int (j:Int),int (n:Int),fn] [] [σ] (fun r H'=>r=.tuple #[]∧∃ σ',OwA encB 4 158 b c k0 (P ++ B ++ M ++ A ++ Q) σ'∧H'=[σ']):=by
 have hlen:=hO.1
 have hln:P.length+n+M.length+n+Q.length=k0:=by rw [← hlen]; simp only [List.length_append]; omega
 refine spec_in (cap:=[]) Tryz.func286 rfl rfl Tryz.ntmps286 rfl envZ (fun N β=>?_)
 rw [← swK_zero] at hO;refine Aaq ?_;refine AL ?_
 refine BF [0,1,2,3] (X:=Nat × PH) (0,σ) (fun z=>z.1≤n∧OwA encB 4 158 b c k0 (swK P A M B Q z.1) z.2) (fun z=>[(10,int (z.1:Int))]) (fun z=>[z.2]) (fun z=>n-z.1) pickZ ⟨by dsimp only; omega,hO⟩ covZ selZ ?_
 rintro ⟨k,σ1⟩ ⟨hk,hO1⟩
 dsimp only at hk hO1 ⊢
 by_cases hlt:k<n
 rotate_left
 ·have hke:k=n:=by omega
  rw [hke,swK_all hA hB] at hO1;refine Acd ?_;exact A9 (res0 rfl) rsubZ selZ ⟨rfl,σ1,hO1,rfl⟩
 obtain ⟨x,y,F,M2,G,e1,e2,f1,f2⟩:=swK_step (P:=P) (M:=M) (Q:=Q) hA hB hlt
 rw [e1] at hO1
 have r1:=hO1.row encB_len (i:=i+k) (x:=x) (at_one (by omega))
 have r2:=hO1.row encB_len (i:=j+k) (x:=y) (at_two (by omega))
 refine Aco ?_;refine Aau ?_
 refine BD (.q 0 (.q 1 (.q 2 (.q 3 (.p 4 (.p 5 (.p 6 (.p 7 (.q 8 (.q 9 (.q 10 (.q 11 (.q 12 (.q 13 (.q 14 (.q 15 (.q 16 (.q 17 (.q 18 (.q 19 (.q 20 (.l 21 .b (.q 22 (.l 23 .b .nil)))))))))))))))))))))))) [] rfl (by kernel_rfl) selZ ?_
 refine Ac1 ?_;refine C1 ?_;refine CD ?_;refine CD ?_;refine CD ?_;refine FY ?_;refine Ac1 ?_;refine C1 ?_;refine Ab9 ?_;refine AM ?_;refine C1 ?_;refine Abc ?_;refine BB ?_
 rw [show (i:Int)+(k:Int)=((i+k:Nat):Int) from by omega,show (j:Int)+(k:Int)=((j+k:Nat):Int) from by omega]
 skip
 refine B4 ?_;refine' DQ rfl _ rfl rfl _ _
 rotate_left
 ·exact CI encB_len (a:=y) (i+k) hO1 rfl rfl rfl (by unfold encB; exact oneZ) rfl takeZ (by omega)
 ·rintro _ _ ⟨_,_,_,rfl⟩ w hw; exact hw.sel selZ
 rintro _ _ ⟨rfl,σ2,hO2,rfl⟩;refine Ack ?_;refine' DQ rfl _ rfl rfl _ _
 rotate_left
 ·exact CI encB_len (a:=x) (j+k) hO2 rfl rfl rfl (by unfold encB; exact oneZ) rfl takeZ (by omega)
 ·rintro _ _ ⟨_,_,_,rfl⟩ w hw; exact hw.sel selZ
 rintro _ _ ⟨rfl,σ3,hO3,rfl⟩;refine BE ?_;refine Acw ?_
 refine AY (k+1,σ3) ⟨by dsimp only; omega,?_⟩ (by dsimp only; omega) covZ selZ
 dsimp only
 rw [sw_two (by omega) (by omega)] at hO3
 rw [e2]; exact hO3
theorem rotateB_spec (fn:Value) (P A B Q:List Bk) (k0 b c a m bb:Nat) (σ:PH) (hO:OwA encB 4 158 b c k0 (P ++ A ++ B ++ Q) σ) (hl:k0≤1000000) (ha:P.length=a) (hm:a+A.length=m) (hb:m+B.length=bb) (h1:0<A.length) (h2:0<B.length) :
  Eng.Spec Tryz.prog (fv 269) [.slice (some ⟨b,0,none⟩) k0 c,int (a:Int),int (m:Int),int (bb:Int),fn] [] [σ] (fun r H'=>r=.tuple #[]∧∃ σ',OwA encB 4 158 b c k0 (P ++ B ++ A ++ Q) σ'∧H'=[σ']):=by
 have hI0:=RotI.start (Q:=Q) ha hm hb h1 h2
 have hln:a+A.length+B.length+Q.length=k0:=by rw [← hO.1]; simp only [List.length_append]; omega
 generalize P ++ A ++ B ++ Q=D0 at hO hI0
 generalize P ++ B ++ A ++ Q=F at hI0 ⊢
 refine spec_in (cap:=[]) Tryz.func269 rfl rfl Tryz.ntmps269 rfl envZ (fun N β=>?_)
 refine Aag ?_;refine BZ ?_;refine Acu ?_;refine BZ ?_;refine Adc ?_
 rw [show (m:Int)-(a:Int)=((m-a:Nat):Int) from by omega,show (bb:Int)-(m:Int)=((bb-m:Nat):Int) from by omega]
 refine BF [0,1,2,3,4] (X:=(Nat × Nat) × (List Bk × PH)) ((m-a,bb-m),(D0,σ)) (fun z=>RotI m F z.2.1 z.1.1 z.1.2∧OwA encB 4 158 b c k0 z.2.1 z.2.2) (fun z=>[(10,int (z.1.1:Int)),(11,int (z.1.2:Int))]) (fun z=>[z.2.2]) (fun z=>z.1.1+z.1.2) pickZ ⟨hI0,hO⟩ covZ selZ ?_
 rintro ⟨⟨i,j⟩,⟨D1,σ1⟩⟩ ⟨hI,hO1⟩
 dsimp only at hI hO1 ⊢
 have hle:=hI.le
 have hpi:=hI.pi
 have hpj:=hI.pj
 have hDl:=hO1.1
 by_cases hij:i=j
 ·subst hij
  obtain ⟨P1,A1,B1,Q1,rfl,l1,l2,l3,l4,rfl⟩:=hI.last
  refine Aap ?_;refine BO ?_;refine Aa1 ?_;refine Aba ?_;refine AB ?_;refine BZ ?_;refine Abi ?_
  rw [show (m:Int)-(i:Int)=((m-i:Nat):Int) from by omega]
  skip
  refine BA (swapRB_spec fn P1 A1 [] B1 Q1 i k0 b c σ1 l2 l3 hO1 hl (m-i) m l1 (by simp only [List.length_nil]; omega)) rfl rfl takesZ rdZ rfl rfl ?_
  rintro _ _ ⟨rfl,σ2,hO2,rfl⟩;refine AE ?_;exact A9 (res0 rfl) rsubZ selZ ⟨rfl,σ2,hO2,rfl⟩
 by_cases hgt:j<i
 ·obtain ⟨P1,A1,M1,B1,Q1,rfl,l1,l2,l3,l4,hI2⟩:=hI.left hgt
  refine Aap ?_;refine C3 ?_;refine Adr ?_;refine CS ?_;refine Aah ?_;refine Ac9 ?_;refine BZ ?_;refine Abi ?_
  rw [show (m:Int)-(i:Int)=((m-i:Nat):Int) from by omega]
  skip
  refine BA (swapRB_spec fn P1 A1 M1 B1 Q1 j k0 b c σ1 l2 l3 hO1 hl (m-i) m l1 (by omega)) rfl rfl takesZ rdZ rfl rfl ?_
  rintro _ _ ⟨rfl,σ2,hO2,rfl⟩;refine AE ?_;refine Aba ?_;refine BZ ?_;refine Acc ?_
  rw [show (i:Int)-(j:Int)=((i-j:Nat):Int) from by omega]
  exact AY ((i-j,j),(_,σ2)) ⟨hI2,hO2⟩ (by dsimp only; omega) covZ selZ
 ·obtain ⟨P1,A1,M1,B1,Q1,rfl,l1,l2,l3,l4,hI2⟩:=hI.right (by omega)
  refine Aap ?_;refine C3 ?_;refine Adr ?_;refine BW ?_;refine Aad ?_;refine Ac9 ?_;refine BZ ?_;refine Aal ?_;refine BY ?_;refine AB ?_;refine BZ ?_;refine Aal ?_
  rw [show (m:Int)-(i:Int)=((m-i:Nat):Int) from by omega,show (m:Int)+(j:Int)-(i:Int)=((m+j-i:Nat):Int) from by omega]
  skip
  refine BA (swapRB_spec fn P1 A1 M1 B1 Q1 i k0 b c σ1 l2 l3 hO1 hl (m-i) (m+j-i) l1 (by omega)) rfl rfl takesZ rdZ rfl rfl ?_
  rintro _ _ ⟨rfl,σ2,hO2,rfl⟩;refine AE ?_;refine Aba ?_;refine BZ ?_;refine Acc ?_
  rw [show (j:Int)-(i:Int)=((j-i:Nat):Int) from by omega]
  exact AY ((i,j-i),(_,σ2)) ⟨hI2,hO2⟩ (by dsimp only; omega) covZ selZ
theorem insertB_spec {cf:Bk→Bk→Int} (hc:Cmp cf) (fn:Value) (hcf:∀ x y:Bk,Ans Tryz.prog fn [.agg #[int x.c,int x.a,int x.b,int x.k],.agg #[int y.c,int y.a,int y.b,int y.k]] [] (fun r=>r=int (cf x y))) (P Y Q:List Bk) (k0 b c a bb:Nat) (σ:PH) (hO:OwA encB 4 158 b c k0 (P ++ Y ++ Q) σ) (hl:k0≤1000000) (ha:P.length=a) (hb:a+Y.length=bb) :
  Eng.Spec Tryz.prog (fv 246) [.slice (some ⟨b,0,none⟩) k0 c,int (a:Int),int (bb:Int),fn] [] [σ] (fun r H'=>r=.tuple #[]∧∃ Y' σ',Y'.Perm Y∧Srt cf Y'∧OwA encB 4 158 b c k0 (P ++ Y' ++ Q) σ'∧H'=[σ']):=by
 have hln:a+Y.length+Q.length=k0:=by rw [← hO.1]; simp only [List.length_append]; omega
 refine spec_in (cap:=[]) Tryz.func246 rfl rfl Tryz.ntmps246 rfl envZ (fun N β=>?_)
 cases Y with
 | nil =>
  have hab:a=bb:=by simpa using hb
  subst hab;refine Aab ?_;refine Abw ?_;refine AL ?_
  refine BF [0,1,2,3] (X:=Unit) () (fun _=>True) (fun _=>[(8,int ((a+1:Nat):Int))]) (fun _=>[σ]) (fun _=>0) pickZ trivial covZ selZ ?_
  rintro _ _;refine Acd ?_;exact A9 (res0 rfl) rsubZ selZ ⟨rfl,[],σ,List.Perm.refl _,.nil,hO,rfl⟩
 | cons y0 Y0 =>
 rw [List.length_cons] at hb hln;refine Aab ?_;refine Abw ?_;refine AL ?_
 refine BF [0,1,2,3] (X:=(Nat × (List Bk × List Bk)) × PH) ((a+1,([y0],Y0)),σ) (fun z=>z.1.1=a+z.1.2.1.length∧0<z.1.2.1.length∧(z.1.2.1 ++ z.1.2.2).Perm (y0::Y0)∧Srt cf z.1.2.1∧OwA encB 4 158 b c k0 (P ++ z.1.2.1 ++ z.1.2.2 ++ Q) z.2) (fun z=>[(8,int (z.1.1:Int))]) (fun z=>[z.2]) (fun z=>z.1.2.2.length) pickZ ⟨rfl,by simp,by simp,by simp,hO.cast (by simp)⟩ covZ selZ ?_
 rintro ⟨⟨i,⟨S,R⟩⟩,σ1⟩ ⟨hi,hS0,hp,hS,hO1⟩
 dsimp only at hi hS0 hp hS hO1 ⊢
 have hpl:=hp.length_eq
 rw [List.length_append,List.length_cons] at hpl
 cases R with
 | nil =>
  rw [List.length_nil] at hpl;refine Acd ?_
  exact A9 (res0 rfl) rsubZ selZ ⟨rfl,S,σ1,by simpa using hp,hS,hO1.cast (by simp),rfl⟩
 | cons e R =>
 rw [List.length_cons] at hpl;refine Aco ?_;refine Aau ?_;refine Aa9 ?_;refine AL ?_
 refine BF [0,1,2,3,8] (X:=(Nat × (List Bk × List Bk)) × PH) ((i,(S,[])),σ1) (fun z=>z.1.1=a+z.1.2.1.length∧z.1.2.1 ++ z.1.2.2=S∧(∀ y,z.1.2.2.head?=some y→cf e y≤0)∧OwA encB 4 158 b c k0 (P ++ z.1.2.1 ++ e::z.1.2.2 ++ R ++ Q) z.2) (fun z=>[(9,int (z.1.1:Int))]) (fun z=>[z.2]) (fun z=>z.1.2.1.length) pickZ ⟨hi,by simp,by simp,hO1.cast (by simp)⟩ covZ selZ ?_
 rintro ⟨⟨j,⟨A,B⟩⟩,σ2⟩ ⟨hj,hAB,hB,hO2⟩
 dsimp only at hj hAB hB hO2 ⊢
 have hABl:A.length+B.length=S.length:=by rw [← hAB,List.length_append]
 rcases List.eq_nil_or_concat A with rfl|⟨A1,z,rfl⟩
 ·rw [List.length_nil] at hj hABl
  refine AC ?_;refine AC ?_
  refine BD P3Z [] rfl (by kernel_rfl) selZ ?_
  refine Aar ?_;refine C6 ?_;refine Acz ?_;refine Abg ?_;refine BR ?_;refine BE ?_;refine Aax ?_;refine Acw ?_
  refine AY ((i+1,(e::B,R)),σ2) ⟨?_,by simp,?_,?_,hO2.cast (by simp)⟩ (by dsimp only; rw [List.length_cons]; omega) covZ selZ
  ·dsimp only; rw [List.length_cons]; omega
  ·dsimp only
   rw [← hAB] at hp;refine List.Perm.trans ?_ hp;simp only [List.nil_append,List.cons_append];exact List.perm_middle.symm
  ·dsimp only
   have:=srt_ins hc (A:=[]) (B:=B) (e:=e) (by rw [hAB]; exact hS) (by simp) hB
   simpa using this
 ·rw [List.concat_eq_append] at hAB hj hO2 hABl ⊢
  rw [List.length_append,List.length_singleton] at hj hABl
  obtain ⟨jj,rfl⟩:∃ jj,j=jj+1:=⟨a+A1.length,by omega⟩
  have hO3:OwA encB 4 158 b c k0 ((P ++ A1) ++ z::e::(B ++ R ++ Q)) σ2:=hO2.cast (by simp)
  have r1:=hO3.row encB_len (i:=jj+1) (x:=e) (at_nxt (by rw [List.length_append]; omega))
  have r2:=hO3.row encB_len (i:=jj+1-1) (x:=z) (at_mid (by rw [List.length_append]; omega))
  have hcc:=hcf e z
  obtain ⟨cv,hcv⟩:∃ cv,cf e z=cv:=⟨_,rfl⟩
  rw [hcv] at hcc;refine AC ?_;refine AC ?_
  refine BD (.q 0 (.q 1 (.q 2 (.q 3 (.q 4 (.q 5 (.q 6 (.q 7 (.q 8 (.q 9 (.q 10 (.q 11 (.q 12 (.q 13 (.l 14 .e (.q 15 (.q 16 .nil))))))))))))))))) [] rfl (by kernel_rfl) selZ ?_
  refine Aar ?_;refine E2 ?_;refine Aar ?_;refine Aar ?_;refine Ab9 ?_;refine BX ?_;refine Abc ?_;refine B4 (BP rfl hcc rfl rfl rdZ rfl rfl ?_);rintro _ rfl
  by_cases hlt:cv<0
  ·refine DO ?_
   refine BN ?_;refine BE ?_;refine Aav ?_
   refine BD (.q 0 (.q 1 (.p 2 (.p 3 (.p 4 (.q 5 (.q 6 (.q 7 (.q 8 (.q 9 (.q 10 (.q 11 (.q 12 (.q 13 (.q 14 (.l 15 .b (.q 16 (.l 17 .b .nil)))))))))))))))))) [] rfl (by kernel_rfl) selZ ?_
   refine Aar ?_;refine CD ?_;refine CD ?_;refine C8 ?_;refine Ada ?_;refine Acp ?_;refine Ack ?_;refine' DQ rfl _ rfl rfl _ _
   rotate_left
   ·exact CI encB_len (a:=z) (jj+1) hO3 rfl rfl rfl (by unfold encB; exact oneZ) rfl takeZ (by omega)
   ·rintro _ _ ⟨_,_,_,rfl⟩ w hw; exact hw.sel selZ
   rintro _ _ ⟨rfl,σ3,hO4,rfl⟩;refine Ack ?_;refine' DQ rfl _ rfl rfl _ _
   rotate_left
   ·exact CI encB_len (a:=e) (jj+1-1) hO4 rfl rfl rfl (by unfold encB; exact oneZ) rfl takeZ (by omega)
   ·rintro _ _ ⟨_,_,_,rfl⟩ w hw; exact hw.sel selZ
   rintro _ _ ⟨rfl,σ4,hO5,rfl⟩;refine BE ?_;refine Acb ?_;refine B7 ?_;refine Aaa ?_
   rw [sw_bwd (by rw [List.length_append]; omega) (by rw [List.length_append]; omega)] at hO5
   refine AY ((jj,(A1,z::B)),σ4) ⟨by dsimp only; omega,by dsimp only; rw [← hAB]; simp,?_,hO5.cast (by simp)⟩ (by dsimp only; rw [List.length_append,List.length_singleton]; omega) covZ selZ
   dsimp only
   intro y hy
   simp only [List.head?_cons,Option.some.injEq] at hy;subst hy;omega
  ·refine CX ?_
   refine BN ?_;refine BE ?_;refine Aax ?_;refine Acw ?_
   have hze:cf z e≤0:=hc.tot (by omega)
   refine AY ((i+1,(A1 ++ [z] ++ e::B,R)),σ2) ⟨?_,by dsimp only; simp only [List.length_append,List.length_cons,List.length_nil]; omega,?_,?_,hO2.cast (by simp)⟩ (by dsimp only; rw [List.length_cons]; omega) covZ selZ
   ·dsimp only; simp only [List.length_append,List.length_cons,List.length_nil]; omega
   ·dsimp only
    rw [← hAB] at hp;refine List.Perm.trans ?_ hp
    have:(A1 ++ [z] ++ e::(B ++ R)).Perm (e::(A1 ++ [z] ++ (B ++ R))):=List.perm_middle
    simp only [List.append_assoc,List.cons_append,List.nil_append] at this ⊢;refine this.trans ?_
    have h2:(e::(A1 ++ z::(B ++ R))).Perm (A1 ++ z::(B ++ e::R)):=by
     have h3:(A1 ++ z::B ++ e::R).Perm (e::(A1 ++ z::B ++ R)):=List.perm_middle
     simpa using h3.symm
    exact h2
   ·dsimp only
    refine srt_ins hc (by rw [hAB]; exact hS) (fun x hx=>?_) hB
    simp at hx
    subst hx;exact hze
theorem symMB_spec {cf:Bk→Bk→Int} (hc:Cmp cf) (fn:Value) (hcf:∀ x y:Bk,Ans Tryz.prog fn [.agg #[int x.c,int x.a,int x.b,int x.k],.agg #[int y.c,int y.a,int y.b,int y.k]] [] (fun r=>r=int (cf x y))) (k0 b c:Nat) (hl:k0≤1000000):∀ (d:Nat) (P U V Q:List Bk) (a m bb:Nat) (σ:PH),U.length+V.length≤d→OwA encB 4 158 b c k0 (P ++ U ++ V ++ Q) σ→P.length=a→a+U.length=m→m+V.length=bb→0<U.length→0<V.length→Srt cf U→Srt cf V →
  Eng.Spec Tryz.prog (fv 247) [.slice (some ⟨b,0,none⟩) k0 c,int (a:Int),int (m:Int),int (bb:Int),fn] [] [σ] (fun r H'=>r=.tuple #[]∧∃ W σ',W.Perm (U ++ V)∧Srt cf W∧OwA encB 4 158 b c k0 (P ++ W ++ Q) σ'∧H'=[σ']):=by
 intro d
 induction d with
 | zero=>intro P U V Q a m bb σ hd _ _ _ _ h1; omega
 | succ d ih =>
 intro P U V Q a m bb σ hd hO ha hm hb h1 h2 hU hV
 have hln:bb+Q.length=k0:=by rw [← hO.1]; simp only [List.length_append]; omega
 refine spec_in (cap:=[]) Tryz.func247 rfl rfl Tryz.ntmps247 rfl envZ (fun N β=>?_)
 by_cases hu1:U.length=1
 ·clear ih
  obtain ⟨u,rfl⟩:=List.length_eq_one_iff.1 hu1
  rw [List.length_singleton] at hm hd;subst hm
  have ra:=hO.row encB_len (i:=a) (x:=u) (getU ha (Nat.le_refl _) (by simp))
  refine Add ?_;refine CO ?_;refine Acv ?_;refine Aab ?_;refine Adc ?_
  refine BF [0,1,2,3,4] (X:=Nat × Nat) (a+1,bb) (fun z=>a+1≤z.1∧z.1≤z.2∧z.2≤bb∧(∀ y,a+1<z.1→V[z.1-1-(a+1)]?=some y→cf y u≤0)∧(∀ y,z.2<bb→V[z.2-(a+1)]?=some y→cf u y≤0)) (fun z=>[(10,int (z.1:Int)),(11,int (z.2:Int))]) (fun _=>[σ]) (fun z=>z.2-z.1) pickZ ⟨Nat.le_refl _,by dsimp only; omega,Nat.le_refl _,fun y h=>absurd h (Nat.lt_irrefl _),fun y h=>absurd h (Nat.lt_irrefl _)⟩ covZ selZ ?_
  rintro ⟨i,j⟩ ⟨g1,g2,g3,g4,g5⟩
  dsimp only at g1 g2 g3 g4 g5 ⊢
  by_cases hlt:i<j
  ·obtain ⟨h,hh⟩:∃ h,(i+j) / 2=h:=⟨_,rfl⟩
   obtain ⟨y,hy⟩:∃ y,V[h-(a+1)]?=some y:=⟨_,List.getElem?_eq_getElem (by omega)⟩
   have rh:=hO.row encB_len (i:=h) (x:=y) (getV (m:=a+1) (by rw [List.length_singleton]; omega) (by omega) hy)
   have hcc:=hcf y u
   obtain ⟨cv,hcv⟩:∃ cv,cf y u=cv:=⟨_,rfl⟩
   rw [hcv] at hcc;refine Aco ?_;refine Acj ?_;refine BY ?_
   rw [show (i:Int)+(j:Int)=((i+j:Nat):Int) from by omega]
   focus ((refine' CK _ rfl rfl rfl _; rotate_left; (apply EL; exact rfl; exact rfl; exact rfl; omega)))
   focus ((refine' CK _ rfl rfl rfl _; rotate_left; (apply CZ; exact rfl; exact rfl; decide)))
   refine CY ?_;refine Aaj ?_;rw [hh]
   refine BD (.q 0 (.q 1 (.q 2 (.q 3 (.q 4 (.q 5 (.q 6 (.q 7 (.q 8 (.l 9 .e (.q 10 .nil))))))))))) [] rfl (by kernel_rfl) selZ ?_
   refine Ac1 ?_;refine Acp ?_;refine B4 (BP rfl hcc rfl rfl rdZ rfl rfl ?_);rintro _ rfl
   by_cases hcl:cv<0
   ·refine DO ?_
    refine Abz ?_;refine Aby ?_;refine Abw ?_;refine A6 ?_
    refine AY (h+1,j) ⟨by dsimp only; omega,by dsimp only; omega,g3,fun z hz e=>?_,g5⟩ (by dsimp only; omega) covZ selZ
    dsimp only at hz e
    rw [show h+1-1-(a+1)=h-(a+1) by omega,hy] at e
    obtain rfl:=Option.some.inj e
    omega
   ·refine CX ?_
    refine Abn ?_;refine Aby ?_;refine Acc ?_
    refine AY (i,h) ⟨g1,by dsimp only; omega,by dsimp only; omega,g4,fun z hz e=>?_⟩ (by dsimp only; omega) covZ selZ
    dsimp only at hz e
    rw [hy] at e
    obtain rfl:=Option.some.inj e
    exact hc.tot (by omega)
  have hij:i=j:=by omega
  subst hij;refine Acd ?_;refine AC ?_;refine Aa9 ?_;refine AL ?_
  have hO0:OwA encB 4 158 b c k0 (shF P u V Q 0) σ:=hO.cast (by simp [shF])
  refine BF [0,1,2,3,4,10] (X:=Nat × PH) (0,σ) (fun z=>z.1≤i-(a+1)∧OwA encB 4 158 b c k0 (shF P u V Q z.1) z.2) (fun z=>[(13,int ((a+z.1:Nat):Int))]) (fun z=>[z.2]) (fun z=>i-(a+1)-z.1) pickZ ⟨Nat.zero_le _,hO0⟩ covZ selZ ?_
  rintro ⟨k,σ1⟩ ⟨hk,hO1⟩
  dsimp only at hk hO1 ⊢
  by_cases hlt2:k<i-(a+1)
  ·obtain ⟨y,F,G,e1,e2,e3⟩:=shF_step (P:=P) (u:=u) (Q:=Q) (show k<V.length by omega)
   rw [e1] at hO1
   have r1:=hO1.row encB_len (i:=a+k) (x:=u) (at_mid (by omega))
   have r2:=hO1.row encB_len (i:=a+k+1) (x:=y) (at_nxt (by omega))
   refine Aap ?_;refine B7 ?_;refine Abp ?_;refine Aau ?_
   refine BD (.q 0 (.q 1 (.p 2 (.p 3 (.p 4 (.q 5 (.q 6 (.q 7 (.q 8 (.q 9 (.q 10 (.q 11 (.q 12 (.q 13 (.q 14 (.l 15 .b (.q 16 (.l 17 .b .nil)))))))))))))))))) [] rfl (by kernel_rfl) selZ ?_
   refine Aar ?_;refine CD ?_;refine CD ?_;refine FV ?_;refine Aar ?_;refine FB ?_;refine Acp ?_;refine Ack ?_;refine' DQ rfl _ rfl rfl _ _
   rotate_left
   ·exact CI encB_len (a:=y) (a+k) hO1 rfl rfl rfl (by unfold encB; exact oneZ) rfl takeZ (by omega)
   ·rintro _ _ ⟨_,_,_,rfl⟩ w hw; exact hw.sel selZ
   rintro _ _ ⟨rfl,σ2,hO2,rfl⟩;refine Ack ?_;refine' DQ rfl _ rfl rfl _ _
   rotate_left
   ·exact CI encB_len (a:=u) (a+k+1) hO2 rfl rfl rfl (by unfold encB; exact oneZ) rfl takeZ (by omega)
   ·rintro _ _ ⟨_,_,_,rfl⟩ w hw; exact hw.sel selZ
   rintro _ _ ⟨rfl,σ3,hO3,rfl⟩;refine BE ?_;refine Acw ?_
   rw [sw_fwd (by omega),← e2] at hO3
   exact AY (k+1,σ3) ⟨by dsimp only; omega,hO3⟩ (by dsimp only; omega) covZ selZ
  ·have hke:k=i-(a+1):=by omega
   subst hke;refine Aap ?_;refine B7 ?_;refine Ab1 ?_
   obtain ⟨W,e1,e2,e3⟩:=shF_perm (P:=P) (u:=u) (V:=V) (Q:=Q) (i-(a+1))
   rw [e1] at hO1
   refine AT (res0 rfl) rsubZ selZ ⟨rfl,W,σ1,by simpa using e2,?_,hO1,rfl⟩
   rw [e3]
   refine put_ok hc (by omega) hV (fun y h0 hy=>g4 y (by omega) ?_) (fun y hy=>g5 y ?_ hy)
   ·rw [show i-1-(a+1)=i-(a+1)-1 by omega]; exact hy
   ·have:=(List.getElem?_eq_some_iff.1 hy).1; omega
 by_cases hv1:V.length=1
 ·clear ih
  obtain ⟨v,rfl⟩:=List.length_eq_one_iff.1 hv1
  rw [List.length_singleton] at hb hd;subst hb
  have rm:=hO.row encB_len (i:=m) (x:=v) (getV (m:=m) (by omega) (Nat.le_refl _) (by simp))
  refine Add ?_;refine Ad ?_;refine Add ?_;refine CO ?_;refine Acv ?_;refine Aab ?_;refine Adc ?_
  refine BF [0,1,2,3,4] (X:=Nat × Nat) (a,m) (fun z=>a≤z.1∧z.1≤z.2∧z.2≤m∧(∀ x,a<z.1→U[z.1-1-a]?=some x→cf x v≤0)∧(∀ x,z.2<m→U[z.2-a]?=some x→cf v x≤0)) (fun z=>[(14,int (z.1:Int)),(15,int (z.2:Int))]) (fun _=>[σ]) (fun z=>z.2-z.1) pickZ ⟨Nat.le_refl _,by dsimp only; omega,Nat.le_refl _,fun y h=>absurd h (Nat.lt_irrefl _),fun y h=>absurd h (Nat.lt_irrefl _)⟩ covZ selZ ?_
  rintro ⟨i,j⟩ ⟨g1,g2,g3,g4,g5⟩
  dsimp only at g1 g2 g3 g4 g5 ⊢
  by_cases hlt:i<j
  ·obtain ⟨h,hh⟩:∃ h,(i+j) / 2=h:=⟨_,rfl⟩
   obtain ⟨x,hx⟩:∃ x,U[h-a]?=some x:=⟨_,List.getElem?_eq_getElem (by omega)⟩
   have rh:=hO.row encB_len (i:=h) (x:=x) (getU ha (by omega) hx)
   have hcc:=hcf v x
   obtain ⟨cv,hcv⟩:∃ cv,cf v x=cv:=⟨_,rfl⟩
   rw [hcv] at hcc;refine Aco ?_;refine Acj ?_;refine BY ?_
   rw [show (i:Int)+(j:Int)=((i+j:Nat):Int) from by omega]
   focus ((refine' CK _ rfl rfl rfl _; rotate_left; (apply EL; exact rfl; exact rfl; exact rfl; omega)))
   focus ((refine' CK _ rfl rfl rfl _; rotate_left; (apply CZ; exact rfl; exact rfl; decide)))
   refine CY ?_;refine Aaj ?_;rw [hh]
   refine BD (.q 0 (.q 1 (.q 2 (.q 3 (.q 4 (.q 5 (.q 6 (.q 7 (.q 8 (.l 9 .e (.q 10 (.q 11 .nil)))))))))))) [] rfl (by kernel_rfl) selZ ?_
   refine Ac1 ?_;refine Acp ?_;refine B4 (BP rfl hcc rfl rfl rdZ rfl rfl ?_);rintro _ rfl
   by_cases hcl:cv<0
   ·refine DO ?_
    refine CW ?_;refine Abn ?_;refine Aby ?_;refine Acc ?_
    refine AY (i,h) ⟨g1,by dsimp only; omega,by dsimp only; omega,g4,fun z hz e=>?_⟩ (by dsimp only; omega) covZ selZ
    dsimp only at hz e
    rw [hx] at e
    obtain rfl:=Option.some.inj e
    omega
   ·refine CX ?_
    refine CW ?_;refine Abz ?_;refine Aby ?_;refine Abw ?_;refine A6 ?_
    refine AY (h+1,j) ⟨by dsimp only; omega,by dsimp only; omega,g3,fun z hz e=>?_,g5⟩ (by dsimp only; omega) covZ selZ
    dsimp only at hz e
    rw [show h+1-1-a=h-a by omega,hx] at e
    obtain rfl:=Option.some.inj e
    exact hc.tot (by omega)
  have hij:i=j:=by omega
  subst hij;refine Acd ?_;refine AC ?_;refine Aa9 ?_;refine AL ?_
  have hO0:OwA encB 4 158 b c k0 (shF P v U Q U.length) σ:=hO.cast (by simp [shF])
  refine BF [0,1,2,3,4,14] (X:=(Nat × Nat) × PH) ((m,U.length),σ) (fun z=>z.1.1=a+z.1.2∧i-a≤z.1.2∧z.1.2≤U.length∧OwA encB 4 158 b c k0 (shF P v U Q z.1.2) z.2) (fun z=>[(17,int (z.1.1:Int))]) (fun z=>[z.2]) (fun z=>z.1.2) pickZ ⟨by dsimp only; omega,by dsimp only; omega,Nat.le_refl _,hO0⟩ covZ selZ ?_
  rintro ⟨⟨p,k⟩,σ1⟩ ⟨hp,hk1,hk2,hO1⟩
  dsimp only at hp hk1 hk2 hO1 ⊢
  by_cases hlt2:i-a<k
  ·obtain ⟨kk,rfl⟩:∃ kk,k=kk+1:=⟨k-1,by omega⟩
   obtain ⟨pp,rfl⟩:∃ pp,p=pp+1:=⟨p-1,by omega⟩
   obtain ⟨x,F,G,e1,e2,e3⟩:=shF_step (P:=P) (u:=v) (Q:=Q) (show kk<U.length by omega)
   rw [e2] at hO1
   have r1:=hO1.row encB_len (i:=pp+1-1) (x:=x) (at_mid (by omega))
   have r2:=hO1.row encB_len (i:=pp+1) (x:=v) (at_nxt (by omega))
   refine Aap ?_;refine CS ?_;refine Aah ?_;refine Aau ?_
   refine BD (.q 0 (.q 1 (.p 2 (.p 3 (.p 4 (.q 5 (.q 6 (.q 7 (.q 8 (.q 9 (.q 10 (.q 11 (.q 12 (.q 13 (.q 14 (.l 15 .b (.q 16 (.l 17 .b .nil)))))))))))))))))) [] rfl (by kernel_rfl) selZ ?_
   refine Aar ?_;refine CD ?_;refine CD ?_;refine C8 ?_;refine Ada ?_;refine Acp ?_;refine Ack ?_;refine' DQ rfl _ rfl rfl _ _
   rotate_left
   ·exact CI encB_len (a:=x) (pp+1) hO1 rfl rfl rfl (by unfold encB; exact oneZ) rfl takeZ (by omega)
   ·rintro _ _ ⟨_,_,_,rfl⟩ w hw; exact hw.sel selZ
   rintro _ _ ⟨rfl,σ2,hO2,rfl⟩;refine Ack ?_;refine' DQ rfl _ rfl rfl _ _
   rotate_left
   ·exact CI encB_len (a:=v) (pp+1-1) hO2 rfl rfl rfl (by unfold encB; exact oneZ) rfl takeZ (by omega)
   ·rintro _ _ ⟨_,_,_,rfl⟩ w hw; exact hw.sel selZ
   rintro _ _ ⟨rfl,σ3,hO3,rfl⟩;refine BE ?_;refine Acb ?_;refine B7 ?_;refine Aaa ?_
   rw [sw_bwd (by omega) (by omega),← e1] at hO3
   exact AY ((pp,kk),σ3) ⟨by dsimp only; omega,by dsimp only; omega,by dsimp only; omega,hO3⟩ (by dsimp only; omega) covZ selZ
  ·have hke:k=i-a:=by omega
   subst hke;refine Aap ?_;refine BW ?_;refine Aa1 ?_
   obtain ⟨W,e1,e2,e3⟩:=shF_perm (P:=P) (u:=v) (V:=U) (Q:=Q) (i-a)
   rw [e1] at hO1;refine AT (res0 rfl) rsubZ selZ ⟨rfl,W,σ1,e2.trans (List.perm_append_singleton v U).symm,?_,hO1,rfl⟩;rw [e3]
   refine put_ok hc (by omega) hU (fun y h0 hy=>g4 y (by omega) ?_) (fun y hy=>g5 y ?_ hy)
   ·rw [show i-1-a=i-a-1 by omega]; exact hy
   ·have:=(List.getElem?_eq_some_iff.1 hy).1; omega
 refine Add ?_;refine Ad ?_;refine Add ?_;refine Ad ?_;refine Aag ?_;refine BY ?_
 rw [show (a:Int)+(bb:Int)=((a+bb:Nat):Int) from by omega]
 focus ((refine' CK _ rfl rfl rfl _; rotate_left; (apply EL; exact rfl; exact rfl; exact rfl; omega)))
 focus ((refine' CK _ rfl rfl rfl _; rotate_left; (apply CZ; exact rfl; exact rfl; decide)))
 refine CY ?_;refine Aaa ?_
 obtain ⟨mid,hmid⟩:∃ mid,(a+bb) / 2=mid:=⟨_,rfl⟩
 rw [hmid];refine Aag ?_;refine BY ?_;refine Aaa ?_
 rw [show (mid:Int)+(m:Int)=((mid+m:Nat):Int) from by omega]
 refine Aa ?_;refine Ace ?_
 refine C9 (X:=Nat × Nat) [0,1,2,3,4,18,19] (fun z=>z=(if mid<m then (mid+m-bb,mid) else (a,m))) (fun z=>[(20,int (z.1:Int)),(21,int (z.2:Int))]) (fun _=>[σ]) pickZ ?_ ?_
 ·by_cases hmm:mid<m
  ·refine AC ?_
   refine Aba ?_;refine CS ?_;refine Aah ?_;refine Aag ?_;refine BZ ?_;refine Aaa ?_;refine Aby ?_;refine Aaa ?_
   rw [show ((mid+m:Nat):Int)-(bb:Int)=((mid+m-bb:Nat):Int) from by omega]
   skip
   exact B8 (mid+m-bb,mid) (by rw [if_pos hmm]) covZ selZ
  ·refine AC ?_
   refine Aba ?_;refine BW ?_;refine Aad ?_;refine Aa9 ?_;refine Aby ?_;refine Aaa ?_
   exact B8 (a,m) (by rw [if_neg hmm]) covZ selZ
 rintro ⟨lo,hi⟩ hz
 dsimp only
 have hlo:a≤lo∧lo≤hi∧hi≤mid∧hi≤m∧(lo=a∨mid-lo=V.length)∧(hi=mid∨hi=m)∧mid≤lo+V.length:=by
  split at hz <;> (simp only [Prod.mk.injEq] at hz; omega)
 clear hz
 obtain ⟨q1,q2,q3,q4,q5,q6,q7⟩:=hlo
 refine Aab ?_;refine B7 ?_;refine Adc ?_
 refine BF [0,1,2,3,4,18,19,22] (X:=Nat × Nat) (lo,hi) (fun z=>lo≤z.1∧z.1≤z.2∧z.2≤hi∧(∀ x y,lo<z.1→U[z.1-1-a]?=some x→V[mid-z.1]?=some y→cf x y≤0)∧(∀ x y,z.2<hi→V[mid-z.2-1]?=some x→U[z.2-a]?=some y→cf x y≤0)) (fun z=>[(20,int (z.1:Int)),(21,int (z.2:Int))]) (fun _=>[σ]) (fun z=>z.2-z.1) pickZ ⟨Nat.le_refl _,q2,Nat.le_refl _,fun x y h=>absurd h (Nat.lt_irrefl _),fun x y h=>absurd h (Nat.lt_irrefl _)⟩ covZ selZ ?_
 rintro ⟨st,r⟩ ⟨g1,g2,g3,g4,g5⟩
 dsimp only at g1 g2 g3 g4 g5 ⊢
 by_cases hlt:st<r
 ·clear ih
  obtain ⟨h,hh⟩:∃ h,(st+r) / 2=h:=⟨_,rfl⟩
  obtain ⟨x,hx⟩:∃ x,U[h-a]?=some x:=⟨_,List.getElem?_eq_getElem (by omega)⟩
  obtain ⟨y,hy⟩:∃ y,V[mid-h-1]?=some y:=⟨_,List.getElem?_eq_getElem (by omega)⟩
  have rh:=hO.row encB_len (i:=h) (x:=x) (getU ha (by omega) hx)
  have rv:=hO.row encB_len (i:=mid+m-1-h) (x:=y) (getV (m:=m) (by omega) (by omega) (by rw [show mid+m-1-h-m=mid-h-1 by omega]; exact hy))
  have hcc:=hcf y x
  obtain ⟨cv,hcv⟩:∃ cv,cf y x=cv:=⟨_,rfl⟩
  rw [hcv] at hcc;refine Aco ?_;refine Acj ?_;refine BY ?_
  rw [show (st:Int)+(r:Int)=((st+r:Nat):Int) from by omega]
  focus ((refine' CK _ rfl rfl rfl _; rotate_left; (apply EL; exact rfl; exact rfl; exact rfl; omega)))
  focus ((refine' CK _ rfl rfl rfl _; rotate_left; (apply CZ; exact rfl; exact rfl; decide)))
  refine CY ?_;refine Aaj ?_;rw [hh]
  refine BD (.q 0 (.q 1 (.q 2 (.q 3 (.q 4 (.q 5 (.q 6 (.q 7 (.q 8 (.q 9 (.q 10 (.l 11 .e (.q 12 (.q 13 .nil)))))))))))))) [] rfl (by kernel_rfl) selZ ?_
  refine Aar ?_;refine Aar ?_;refine D5 ?_
  rw [show ((mid+m-1:Nat):Int)-(h:Int)=((mid+m-1-h:Nat):Int) from by omega]
  refine Acp ?_;refine B4 (BP rfl hcc rfl rfl rdZ rfl rfl ?_);rintro _ rfl
  by_cases hcl:cv<0
  ·refine DO ?_
   refine CW ?_;refine Abn ?_;refine Aby ?_;refine Acc ?_
   refine AY (st,h) ⟨g1,by dsimp only; omega,by dsimp only; omega,g4,fun z1 z2 hz e1 e2=>?_⟩ (by dsimp only; omega) covZ selZ
   dsimp only at hz e1 e2
   rw [hy] at e1;rw [hx] at e2
   obtain rfl:=Option.some.inj e1
   obtain rfl:=Option.some.inj e2
   omega
  ·refine CX ?_
   refine CW ?_;refine Abz ?_;refine Aby ?_;refine Abw ?_;refine A6 ?_
   refine AY (h+1,r) ⟨by dsimp only; omega,by dsimp only; omega,g3,fun z1 z2 hz e1 e2=>?_,g5⟩ (by dsimp only; omega) covZ selZ
   dsimp only at hz e1 e2
   rw [show h+1-1-a=h-a by omega,hx] at e1
   rw [show mid-(h+1)=mid-h-1 by omega,hy] at e2
   obtain rfl:=Option.some.inj e1
   obtain rfl:=Option.some.inj e2
   exact hc.tot (by omega)
 have hst:st=r:=by omega
 subst hst
 have hok:=sym_ok hc hU hV (h:=mid-a) (s:=st-a) (by omega) (by omega) (by omega)
  (fun x y h0 e1 e2=>by
   rw [show mid-a-(st-a)=mid-st by omega] at e2
   by_cases hl2:lo<st
   ·exact g4 x y hl2 (by rw [show st-1-a=st-a-1 by omega]; exact e1) e2
   ·have:=(List.getElem?_eq_some_iff.1 e2).1; omega)
  (fun x y h0 e1 e2=>by
   rw [show mid-a-(st-a)-1=mid-st-1 by omega] at e1
   by_cases hl2:st<hi
   ·exact g5 x y hl2 e1 e2
   ·have:=(List.getElem?_eq_some_iff.1 e2).1; omega)
 rw [show mid-a-(st-a)=mid-st by omega] at hok
 have eU:=List.take_append_drop (st-a) U
 have eV:=List.take_append_drop (mid-st) V
 have lU1:(U.take (st-a)).length=st-a:=by rw [List.length_take]; omega
 have lU2:(U.drop (st-a)).length=m-st:=by rw [List.length_drop]; omega
 have lV1:(V.take (mid-st)).length=mid-st:=by rw [List.length_take]; omega
 have lV2:(V.drop (mid-st)).length=bb-m-(mid-st):=by rw [List.length_drop]; omega
 have pUV:((U.take (st-a) ++ V.take (mid-st)) ++ (U.drop (st-a) ++ V.drop (mid-st))).Perm (U ++ V):=by
  conv=>rhs; rw [← eU,← eV]
  simp only [List.append_assoc];refine List.Perm.append_left _ ?_;rw [← List.append_assoc,← List.append_assoc];exact List.Perm.append_right _ List.perm_append_comm
 have hO0:OwA encB 4 158 b c k0 (P ++ (U.take (st-a) ++ U.drop (st-a)) ++ (V.take (mid-st) ++ V.drop (mid-st)) ++ Q) σ:=by rw [eU,eV]; exact hO
 have sU1:Srt cf (U.take (st-a)):=hU.sublist (List.take_sublist _ _)
 have sU2:Srt cf (U.drop (st-a)):=hU.sublist (List.drop_sublist _ _)
 have sV1:Srt cf (V.take (mid-st)):=hV.sublist (List.take_sublist _ _)
 have sV2:Srt cf (V.drop (mid-st)):=hV.sublist (List.drop_sublist _ _)
 clear g4 g5 hO
 generalize U.take (st-a)=U1 at *
 generalize U.drop (st-a)=U2 at *
 generalize V.take (mid-st)=V1 at *
 generalize V.drop (mid-st)=V2 at *
 refine Acd ?_;refine Aag ?_;refine BZ ?_;refine Aaa ?_
 rw [show ((mid+m:Nat):Int)-(st:Int)=((mid+m-st:Nat):Int) from by omega]
 skip
 refine AC ?_
 refine C9 (X:=PH) [0,1,2,3,4,18,20,24] (fun z=>OwA encB 4 158 b c k0 (P ++ U1 ++ V1 ++ U2 ++ V2 ++ Q) z) (fun _=>[]) (fun z=>[z]) pickZ ?_ ?_
 ·have nop:U2=[]∨V1=[]→OwA encB 4 158 b c k0 (P ++ U1 ++ V1 ++ U2 ++ V2 ++ Q) σ:=fun h=>hO0.cast (by rcases h with rfl|rfl <;> simp)
  by_cases c1:st<m
  ·by_cases c2:m<mid+m-st
   ·have hro:=rotateB_spec fn (P ++ U1) U2 V1 (V2 ++ Q) k0 b c st m (mid+m-st) σ (hO0.cast (by simp)) hl (by rw [List.length_append]; omega) (by omega) (by omega) (by omega) (by omega)
    refine Ads ?_;refine BK ?_;refine Ac4 ?_;refine Adt ?_;refine BA hro rfl rfl takesZ rdZ rfl rfl ?_;rintro _ _ ⟨rfl,σ1,hO1,rfl⟩;refine AE ?_
    exact B8 σ1 (hO1.cast (by simp)) covZ selZ
   ·refine AC ?_
    refine Aba ?_;refine Acy ?_;refine A7 ?_;refine Adb ?_
    exact B8 σ (nop (.inr (List.length_eq_zero_iff.1 (by omega)))) covZ selZ
  ·refine AC ?_
   refine Aba ?_;refine A7 ?_;refine Abd ?_;refine Ab3 ?_
   exact B8 σ (nop (.inl (List.length_eq_zero_iff.1 (by omega)))) covZ selZ
 rintro σ1 hO1;clear hO0;refine AC ?_
 refine C9 (X:=List Bk × PH) [0,1,2,3,4,18,20,24] (fun z=>z.1.Perm (U1 ++ V1)∧Srt cf z.1∧OwA encB 4 158 b c k0 (P ++ z.1 ++ U2 ++ V2 ++ Q) z.2) (fun _=>[]) (fun z=>[z.2]) pickZ ?_ ?_
 ·have nop:U1=[]∨V1=[]→(U1 ++ V1).Perm (U1 ++ V1)∧Srt cf (U1 ++ V1)∧OwA encB 4 158 b c k0 (P ++ (U1 ++ V1) ++ U2 ++ V2 ++ Q) σ1:=fun h=>⟨List.Perm.refl _,by rcases h with rfl|rfl <;> simpa,hO1.cast (by simp)⟩
  by_cases c1:a<st
  ·by_cases c2:st<mid
   ·have hih:=ih P U1 V1 (U2 ++ V2 ++ Q) a st mid σ1 (by omega) (hO1.cast (by simp)) ha (by omega) (by omega) (by omega) (by omega) sU1 sV1
    refine Ads ?_;refine BK ?_;refine Ac4 ?_;refine Adt ?_;refine BA hih rfl rfl takesZ rdZ rfl rfl ?_;rintro _ _ ⟨rfl,W1,σ2,p1,s1,hO2,rfl⟩;refine AE ?_
    exact B8 (W1,σ2) ⟨p1,s1,hO2.cast (by simp)⟩ covZ selZ
   ·refine AC ?_
    refine Aba ?_;refine Acy ?_;refine A7 ?_;refine Adb ?_
    exact B8 (U1 ++ V1,σ1) (nop (.inr (List.length_eq_zero_iff.1 (by omega)))) covZ selZ
  ·refine AC ?_
   refine Aba ?_;refine A7 ?_;refine Abd ?_;refine Ab3 ?_
   exact B8 (U1 ++ V1,σ1) (nop (.inl (List.length_eq_zero_iff.1 (by omega)))) covZ selZ
 rintro ⟨W1,σ2⟩ ⟨p1,s1,hO2⟩
 dsimp only at p1 s1 hO2 ⊢
 have lW1:=p1.length_eq
 rw [List.length_append] at lW1
 have fin:∀ W2:List Bk,W2.Perm (U2 ++ V2)→Srt cf W2→(W1 ++ W2).Perm (U ++ V)∧Srt cf (W1 ++ W2):=fun W2 p2 s2=>⟨(List.Perm.append p1 p2).trans pUV,srt_halves hc s1 s2 p1 p2 hok⟩
 have nop:U2=[]∨V2=[]→Srt cf (U2 ++ V2):=fun h=>by rcases h with rfl|rfl <;> simpa
 by_cases c1:mid<mid+m-st
 ·by_cases c2:mid+m-st<bb
  ·have hih:=ih (P ++ W1) U2 V2 Q mid (mid+m-st) bb σ2 (by omega) (hO2.cast (by simp)) (by rw [List.length_append]; omega) (by omega) (by omega) (by omega) (by omega) sU2 sV2
   refine Ads ?_;refine BK ?_;refine Ac4 ?_;refine Adt ?_;refine BA hih rfl rfl takesZ rdZ rfl rfl ?_;rintro _ _ ⟨rfl,W2,σ3,p2,s2,hO3,rfl⟩;refine AE ?_
   exact A9 (res0 rfl) rsubZ selZ ⟨rfl,W1 ++ W2,σ3,(fin W2 p2 s2).1,(fin W2 p2 s2).2,hO3.cast (by simp),rfl⟩
  ·have f:=fin (U2 ++ V2) (List.Perm.refl _) (nop (.inr (List.length_eq_zero_iff.1 (by omega))))
   refine Ads ?_;refine A7 ?_;refine Adb ?_
   exact A9 (res0 rfl) rsubZ selZ ⟨rfl,W1 ++ (U2 ++ V2),σ2,f.1,f.2,hO2.cast (by simp),rfl⟩
 ·have f:=fin (U2 ++ V2) (List.Perm.refl _) (nop (.inl (List.length_eq_zero_iff.1 (by omega))))
  refine Aag ?_;refine A7 ?_;refine Abd ?_;refine Ab3 ?_
  exact A9 (res0 rfl) rsubZ selZ ⟨rfl,W1 ++ (U2 ++ V2),σ2,f.1,f.2,hO2.cast (by simp),rfl⟩
theorem insert0B_spec (v fn:Value):Ans Tryz.prog (fv 246) [v,int 0,int 0,fn] [] (fun r=>r=.tuple #[]):=by
 refine spec_in (cap:=[]) Tryz.func246 rfl rfl Tryz.ntmps246 rfl envZ (fun N β=>?_)
 refine Aab ?_;refine BY ?_;refine Aaa ?_;refine AL ?_
 refine BF [0,1,2,3] (X:=Unit) () (fun _=>True) (fun _=>[(8,int 1)]) (fun _=>[]) (fun _=>0) pickZ trivial covZ selZ ?_
 rintro _ _;refine Acd ?_;exact A9 (res0 rfl) rsubZ selZ ⟨rfl,rfl⟩
theorem stable0B_spec (v fn:Value):Ans Tryz.prog (fv 194) [v,int 0,fn] [] (fun r=>r=.tuple #[]):=by
 refine spec_in (cap:=[]) Tryz.func194 rfl rfl Tryz.ntmps194 rfl envZ (fun N β=>?_)
 refine Aaq ?_;refine Aab ?_;refine Ace ?_;refine AL ?_
 refine BF [0,1,2,6] (X:=Unit) () (fun _=>True) (fun _=>[(7,int 0),(8,int 20)]) (fun _=>[]) (fun _=>0) pickZ trivial covZ selZ ?_
 rintro _ _;refine Aap ?_;refine DA ?_;refine Aa1 ?_;refine Aag ?_;refine Aal ?_;refine AZ (insert0B_spec v fn) rfl rfl rdZ rfl rfl ?_;rintro _ rfl;refine Adi ?_
 refine BF [0,1,2,6] (X:=Unit) () (fun _=>True) (fun _=>[]) (fun _=>[]) (fun _=>0) pickZ trivial covZ selZ ?_
 rintro _ _;refine Acd ?_;exact A9 (res0 rfl) rsubZ selZ ⟨rfl,rfl⟩
theorem stableB_spec {cf:Bk→Bk→Int} (hc:Cmp cf) (fn:Value) (hcf:∀ x y:Bk,Ans Tryz.prog fn [.agg #[int x.c,int x.a,int x.b,int x.k],.agg #[int y.c,int y.a,int y.b,int y.k]] [] (fun r=>r=int (cf x y))) (l:List Bk) (n b c:Nat) (σ:PH) (hO:OwA encB 4 158 b c n l σ) (hl:n≤1000000) :
  Eng.Spec Tryz.prog (fv 194) [.slice (some ⟨b,0,none⟩) n c,int (n:Int),fn] [] [σ] (fun r H'=>r=.tuple #[]∧∃ l' σ',l'.Perm l∧Srt cf l'∧OwA encB 4 158 b c n l' σ'∧H'=[σ']):=by
 have hln:=hO.1
 refine spec_in (cap:=[]) Tryz.func194 rfl rfl Tryz.ntmps194 rfl envZ (fun N β=>?_)
 refine Aaq ?_;refine Aab ?_;refine Ace ?_;refine AL ?_
 refine BF [0,1,2,6] (X:=(Nat × (List Bk × List Bk)) × PH) ((0,([],l)),σ) (fun z=>Beg cf 20 z.1.2.1∧z.1.2.1.length=z.1.1∧(z.1.2.1 ++ z.1.2.2).Perm l∧OwA encB 4 158 b c n (z.1.2.1 ++ z.1.2.2) z.2) (fun z=>[(7,int (z.1.1:Int)),(8,int ((z.1.1+20:Nat):Int))]) (fun z=>[z.2]) (fun z=>z.1.2.2.length) pickZ ⟨Beg.nil,rfl,List.Perm.refl _,hO⟩ covZ selZ ?_
 rintro ⟨⟨a,⟨D,R⟩⟩,σ1⟩ ⟨hB,hD,hp,hO1⟩
 dsimp only at hB hD hp hO1 ⊢
 have hpl:=hp.length_eq
 rw [List.length_append] at hpl
 by_cases hlt:a+20≤n
 ·have eR:=List.take_append_drop 20 R
  have l1:(R.take 20).length=20:=by rw [List.length_take]; omega
  have l2:(R.drop 20).length=R.length-20:=List.length_drop
  rw [← eR] at hp hO1
  generalize R.take 20=R1 at *
  generalize R.drop 20=R2 at *
  have hins:=insertB_spec hc fn hcf D R1 R2 n b c a (a+20) σ1 (hO1.cast (by simp)) hl hD (by omega)
  refine Aap ?_;refine ES ?_;refine Adr ?_;refine Aal ?_;refine BA hins rfl rfl takesZ rdZ rfl rfl ?_;rintro _ _ ⟨rfl,Y,σ2,pY,sY,hO2,rfl⟩
  have lY:=pY.length_eq
  refine AE ?_;refine Aa9 ?_;refine Aba ?_;refine BY ?_;refine Acc ?_
  rw [show ((a+20:Nat):Int)+20=((a+20+20:Nat):Int) from by omega]
  refine AY ((a+20,(D ++ Y,R2)),σ2) ⟨hB.snoc (by omega) sY,by dsimp only; rw [List.length_append]; omega,?_,hO2⟩ (by dsimp only; omega) covZ selZ
  dsimp only
  refine List.Perm.trans ?_ hp;rw [List.append_assoc];exact List.Perm.append_left _ (List.Perm.append_right _ pY)
 refine Aap ?_;refine DA ?_;refine Aa1 ?_;refine Aag ?_;refine Aal ?_
 have hins:=insertB_spec hc fn hcf D R [] n b c a n σ1 (hO1.cast (by simp)) hl hD (by omega)
 refine BA hins rfl rfl takesZ rdZ rfl rfl ?_;rintro _ _ ⟨rfl,Y,σ2,pY,sY,hO2,rfl⟩
 have lY:=pY.length_eq
 have hK0:Blk cf 20 (D ++ Y):=hB.done (by omega) sY
 have hP0:(D ++ Y).Perm l:=(List.Perm.append_left _ pY).trans hp
 have hO3:OwA encB 4 158 b c n (D ++ Y) σ2:=hO2.cast (by simp)
 clear hO hO1 hO2 hB hp hins;refine Adi ?_
 refine BF [0,1,2] (X:=(Nat × List Bk) × PH) ((20,D ++ Y),σ2) (fun z=>Blk cf z.1.1 z.1.2∧0<z.1.1∧z.1.1≤2*n+20∧z.1.2.Perm l∧OwA encB 4 158 b c n z.1.2 z.2) (fun z=>[(6,int (z.1.1:Int))]) (fun z=>[z.2]) (fun z=>n-z.1.1) pickZ ⟨hK0,by dsimp only; omega,by dsimp only; omega,hP0,hO3⟩ covZ selZ ?_
 clear hK0 hP0 hO3;rintro ⟨⟨bs,L⟩,σ3⟩ ⟨hK,hb0,hb1,hp,hO⟩
 dsimp only at hK hb0 hb1 hp hO ⊢
 have hLl:=hO.1
 by_cases hlt2:bs<n
 rotate_left
 ·refine AC ?_
  refine Aag ?_;refine Ab1 ?_
  exact A9 (res0 rfl) rsubZ selZ ⟨rfl,L,σ3,hp,hK.small (by omega) hb0,hO,rfl⟩
 refine Aco ?_;refine Ach ?_;refine Aab ?_;refine EW ?_;refine Ace ?_;refine AL ?_
 refine BF [0,1,2,6] (X:=(Nat × (List Bk × List Bk)) × PH) ((0,([],L)),σ3) (fun z=>Beg cf (2*bs) z.1.2.1∧z.1.2.1.length=z.1.1∧Blk cf bs z.1.2.2∧(z.1.2.1 ++ z.1.2.2).Perm l∧OwA encB 4 158 b c n (z.1.2.1 ++ z.1.2.2) z.2) (fun z=>[(7,int (z.1.1:Int)),(8,int ((z.1.1+2*bs:Nat):Int))]) (fun z=>[z.2]) (fun z=>z.1.2.2.length) pickZ ⟨Beg.nil,rfl,hK,hp,hO⟩ ?_ selZ ?_
 ·rw [Nat.zero_add]; exact covZ
 clear hK hO hp;rintro ⟨⟨a,⟨D,R⟩⟩,σ4⟩ ⟨hB,hD,hK,hp,hO⟩
 dsimp only at hB hD hK hp hO ⊢
 have hpl:=hO.1
 rw [List.length_append] at hpl
 by_cases hlt3:a+2*bs≤n
 ·obtain ⟨s1,_,h2⟩:=hK.two hb0 (by omega)
  obtain ⟨s2,k2⟩:=h2 (by omega)
  have eR:R.take bs ++ ((R.drop bs).take bs ++ R.drop (2*bs))=R:=by
   rw [show 2*bs=bs+bs by omega,← List.drop_drop,List.take_append_drop,List.take_append_drop]
  have l1:(R.take bs).length=bs:=by rw [List.length_take]; omega
  have l2:((R.drop bs).take bs).length=bs:=by rw [List.length_take,List.length_drop]; omega
  have l3:(R.drop (2*bs)).length=R.length-2*bs:=List.length_drop
  rw [← eR] at hp hO
  generalize R.take bs=U at *
  generalize (R.drop bs).take bs=V at *
  generalize R.drop (2*bs)=R2 at *
  have hsm:=symMB_spec hc fn hcf n b c hl _ D U V R2 a (a+bs) (a+2*bs) σ4 (Nat.le_refl _) (hO.cast (by simp)) hD (by omega) (by omega) (by omega) (by omega) s1 s2
  refine Aap ?_;refine ES ?_;refine Adr ?_;refine Aal ?_;refine BY ?_;refine Aal ?_
  rw [show (a:Int)+(bs:Int)=((a+bs:Nat):Int) from by omega]
  refine BA hsm rfl rfl takesZ rdZ rfl rfl ?_;rintro _ _ ⟨rfl,W,σ5,pW,sW,hO5,rfl⟩
  have lW:=pW.length_eq
  rw [List.length_append] at lW;refine AE ?_;refine Aa9 ?_;refine Aba ?_;refine EW ?_;refine BY ?_;refine Acc ?_
  rw [show ((a+2*bs:Nat):Int)+((2*bs:Nat):Int)=((a+2*bs+2*bs:Nat):Int) from by omega]
  refine AY ((a+2*bs,(D ++ W,R2)),σ5) ⟨hB.snoc (by omega) sW,by dsimp only; rw [List.length_append]; omega,k2,?_,hO5⟩ (by dsimp only; omega) covZ selZ
  dsimp only
  refine List.Perm.trans ?_ hp;rw [List.append_assoc];refine List.Perm.append_left _ ?_;rw [← List.append_assoc];exact List.Perm.append_right _ pW
 refine Aap ?_;refine DA ?_;refine Aa1 ?_;refine Aap ?_;refine BY ?_;refine Acu ?_
 rw [show (a:Int)+(bs:Int)=((a+bs:Nat):Int) from by omega]
 by_cases hm:a+bs<n
 ·obtain ⟨s1,h2,_⟩:=hK.two hb0 (by omega)
  have s2:=h2 (by omega)
  have eR:R.take bs ++ R.drop bs=R:=List.take_append_drop _ _
  have l1:(R.take bs).length=bs:=by rw [List.length_take]; omega
  have l2:(R.drop bs).length=R.length-bs:=List.length_drop
  rw [← eR] at hp hO
  generalize R.take bs=U at *
  generalize R.drop bs=V at *
  have hsm:=symMB_spec hc fn hcf n b c hl _ D U V [] a (a+bs) n σ4 (Nat.le_refl _) (hO.cast (by simp)) hD (by omega) (by omega) (by omega) (by omega) s1 s2
  refine Abp ?_;refine Adt ?_;refine BA hsm rfl rfl takesZ rdZ rfl rfl ?_;rintro _ _ ⟨rfl,W,σ5,pW,sW,hO5,rfl⟩
  have lW:=pW.length_eq
  rw [List.length_append] at lW;refine AE ?_;refine Aby ?_;refine EH ?_;refine Acc ?_
  rw [show (bs:Int)*2=((2*bs:Nat):Int) from by omega]
  exact AY ((2*bs,D ++ W),σ5) ⟨hB.done (by omega) sW,by dsimp only; omega,by dsimp only; omega,(List.Perm.append_left _ pW).trans hp,hO5.cast (by simp)⟩ (by dsimp only; omega) covZ selZ
 ·refine A7 ?_
  refine Aai ?_;refine Aby ?_;refine EH ?_;refine Acc ?_
  rw [show (bs:Int)*2=((2*bs:Nat):Int) from by omega]
  exact AY ((2*bs,D ++ R),σ4) ⟨hB.done (by omega) (hK.small (by omega) hb0),by dsimp only; omega,by dsimp only; omega,hp,hO⟩ (by dsimp only; omega) covZ selZ
theorem sortStB_spec {cf:Bk→Bk→Int} (hc:Cmp cf) (fn:Value) (hcf:∀ x y:Bk,Ans Tryz.prog fn [.agg #[int x.c,int x.a,int x.b,int x.k],.agg #[int y.c,int y.a,int y.b,int y.k]] [] (fun r=>r=int (cf x y))) (l:List Bk) (v:Value) (σ:PH) (hO:OwnS 158 4 v l.length (l.flatMap encB) σ) (hl:l.length≤1000000) :
  Eng.Spec Tryz.prog (fv 135) [v,fn] [] [σ] (fun r H'=>r=.tuple #[]∧∃ l' σ',l'.Perm l∧Srt cf l'∧OwnS 158 4 v l'.length (l'.flatMap encB) σ'∧H'=[σ']):=by
 refine spec_in (cap:=[]) Tryz.func135 rfl rfl Tryz.ntmps135 rfl envZ (fun N β=>?_)
 rcases hO.block with ⟨rfl,rfl,rfl⟩|⟨b,cap,cur,rfl,_⟩
 ·refine AA ?_
  refine Aal ?_;refine BC ?_;refine AB ?_;refine AZ (stable0B_spec _ fn) rfl rfl rdZ rfl rfl ?_;rintro _ rfl;refine AE ?_;exact A9 (res0 rfl) rsubZ selZ ⟨rfl,[],emp,List.Perm.refl _,.nil,hO,rfl⟩
 ·have hst:=stableB_spec hc fn hcf l l.length b cap σ ⟨rfl,hO⟩ hl
  refine Aba ?_;refine BC ?_;refine AB ?_;refine BA hst rfl rfl takesZ rdZ rfl rfl ?_;rintro _ _ ⟨rfl,l',σ',p,s,hO',rfl⟩;refine AE ?_;refine A9 (res0 rfl) rsubZ selZ ⟨rfl,l',σ',p,s,?_,rfl⟩;rw [p.length_eq];exact hO'.2
theorem swapRH_spec (fn:Value) (P A M B Q:List Hd) (n k0 b c:Nat) (σ:PH) (hA:A.length=n) (hB:B.length=n) (hO:OwA encH 5 246 b c k0 (P ++ A ++ M ++ B ++ Q) σ) (hl:k0≤1000000) (i j:Nat) (hi:P.length=i) (hj:i+n+M.length=j) :
  Eng.Spec Tryz.prog (fv 287) [.slice (some ⟨b,0,none⟩) k0 c,int (i:Int),int (j:Int),int (n:Int),fn] [] [σ] (fun r H'=>r=.tuple #[]∧∃ σ',OwA encH 5 246 b c k0 (P ++ B ++ M ++ A ++ Q) σ'∧H'=[σ']):=by
 have hlen:=hO.1
 have hln:P.length+n+M.length+n+Q.length=k0:=by rw [← hlen]; simp only [List.length_append]; omega
 refine spec_in (cap:=[]) Tryz.func287 rfl rfl Tryz.ntmps287 rfl envZ (fun N β=>?_)
 rw [← swK_zero] at hO;refine Aaq ?_;refine AL ?_
 refine BF [0,1,2,3] (X:=Nat × PH) (0,σ) (fun z=>z.1≤n∧OwA encH 5 246 b c k0 (swK P A M B Q z.1) z.2) (fun z=>[(10,int (z.1:Int))]) (fun z=>[z.2]) (fun z=>n-z.1) pickZ ⟨by dsimp only; omega,hO⟩ covZ selZ ?_
 rintro ⟨k,σ1⟩ ⟨hk,hO1⟩
 dsimp only at hk hO1 ⊢
 by_cases hlt:k<n
 rotate_left
 ·have hke:k=n:=by omega
  rw [hke,swK_all hA hB] at hO1;refine Acd ?_;exact A9 (res0 rfl) rsubZ selZ ⟨rfl,σ1,hO1,rfl⟩
 obtain ⟨x,y,F,M2,G,e1,e2,f1,f2⟩:=swK_step (P:=P) (M:=M) (Q:=Q) hA hB hlt
 rw [e1] at hO1
 have r1:=hO1.row encH_len (i:=i+k) (x:=x) (at_one (by omega))
 have r2:=hO1.row encH_len (i:=j+k) (x:=y) (at_two (by omega))
 refine Aco ?_;refine Aau ?_
 refine BD (.q 0 (.q 1 (.q 2 (.q 3 (.p 4 (.p 5 (.p 6 (.p 7 (.q 8 (.q 9 (.q 10 (.q 11 (.q 12 (.q 13 (.q 14 (.q 15 (.q 16 (.q 17 (.q 18 (.q 19 (.q 20 (.l 21 .b (.q 22 (.l 23 .b .nil)))))))))))))))))))))))) [] rfl (by kernel_rfl) selZ ?_
 refine Ac1 ?_;refine C1 ?_;refine CD ?_;refine CD ?_;refine CD ?_;refine FY ?_;refine Ac1 ?_;refine C1 ?_;refine Ab9 ?_;refine AM ?_;refine C1 ?_;refine Abc ?_;refine BB ?_
 rw [show (i:Int)+(k:Int)=((i+k:Nat):Int) from by omega,show (j:Int)+(k:Int)=((j+k:Nat):Int) from by omega]
 skip
 refine B4 ?_;refine' DQ rfl _ rfl rfl _ _
 rotate_left
 ·exact CI encH_len (a:=y) (i+k) hO1 rfl rfl rfl (by unfold encH; exact oneZ) rfl takeZ (by omega)
 ·rintro _ _ ⟨_,_,_,rfl⟩ w hw; exact hw.sel selZ
 rintro _ _ ⟨rfl,σ2,hO2,rfl⟩;refine Ack ?_;refine' DQ rfl _ rfl rfl _ _
 rotate_left
 ·exact CI encH_len (a:=x) (j+k) hO2 rfl rfl rfl (by unfold encH; exact oneZ) rfl takeZ (by omega)
 ·rintro _ _ ⟨_,_,_,rfl⟩ w hw; exact hw.sel selZ
 rintro _ _ ⟨rfl,σ3,hO3,rfl⟩;refine BE ?_;refine Acw ?_
 refine AY (k+1,σ3) ⟨by dsimp only; omega,?_⟩ (by dsimp only; omega) covZ selZ
 dsimp only
 rw [sw_two (by omega) (by omega)] at hO3
 rw [e2]; exact hO3
theorem rotateH_spec (fn:Value) (P A B Q:List Hd) (k0 b c a m bb:Nat) (σ:PH) (hO:OwA encH 5 246 b c k0 (P ++ A ++ B ++ Q) σ) (hl:k0≤1000000) (ha:P.length=a) (hm:a+A.length=m) (hb:m+B.length=bb) (h1:0<A.length) (h2:0<B.length) :
  Eng.Spec Tryz.prog (fv 270) [.slice (some ⟨b,0,none⟩) k0 c,int (a:Int),int (m:Int),int (bb:Int),fn] [] [σ] (fun r H'=>r=.tuple #[]∧∃ σ',OwA encH 5 246 b c k0 (P ++ B ++ A ++ Q) σ'∧H'=[σ']):=by
 have hI0:=RotI.start (Q:=Q) ha hm hb h1 h2
 have hln:a+A.length+B.length+Q.length=k0:=by rw [← hO.1]; simp only [List.length_append]; omega
 generalize P ++ A ++ B ++ Q=D0 at hO hI0
 generalize P ++ B ++ A ++ Q=F at hI0 ⊢
 refine spec_in (cap:=[]) Tryz.func270 rfl rfl Tryz.ntmps270 rfl envZ (fun N β=>?_)
 refine Aag ?_;refine BZ ?_;refine Acu ?_;refine BZ ?_;refine Adc ?_
 rw [show (m:Int)-(a:Int)=((m-a:Nat):Int) from by omega,show (bb:Int)-(m:Int)=((bb-m:Nat):Int) from by omega]
 refine BF [0,1,2,3,4] (X:=(Nat × Nat) × (List Hd × PH)) ((m-a,bb-m),(D0,σ)) (fun z=>RotI m F z.2.1 z.1.1 z.1.2∧OwA encH 5 246 b c k0 z.2.1 z.2.2) (fun z=>[(10,int (z.1.1:Int)),(11,int (z.1.2:Int))]) (fun z=>[z.2.2]) (fun z=>z.1.1+z.1.2) pickZ ⟨hI0,hO⟩ covZ selZ ?_
 rintro ⟨⟨i,j⟩,⟨D1,σ1⟩⟩ ⟨hI,hO1⟩
 dsimp only at hI hO1 ⊢
 have hle:=hI.le
 have hpi:=hI.pi
 have hpj:=hI.pj
 have hDl:=hO1.1
 by_cases hij:i=j
 ·subst hij
  obtain ⟨P1,A1,B1,Q1,rfl,l1,l2,l3,l4,rfl⟩:=hI.last
  refine Aap ?_;refine BO ?_;refine Aa1 ?_;refine Aba ?_;refine AB ?_;refine BZ ?_;refine Abi ?_
  rw [show (m:Int)-(i:Int)=((m-i:Nat):Int) from by omega]
  skip
  refine BA (swapRH_spec fn P1 A1 [] B1 Q1 i k0 b c σ1 l2 l3 hO1 hl (m-i) m l1 (by simp only [List.length_nil]; omega)) rfl rfl takesZ rdZ rfl rfl ?_
  rintro _ _ ⟨rfl,σ2,hO2,rfl⟩;refine AE ?_;exact A9 (res0 rfl) rsubZ selZ ⟨rfl,σ2,hO2,rfl⟩
 by_cases hgt:j<i
 ·obtain ⟨P1,A1,M1,B1,Q1,rfl,l1,l2,l3,l4,hI2⟩:=hI.left hgt
  refine Aap ?_;refine C3 ?_;refine Adr ?_;refine CS ?_;refine Aah ?_;refine Ac9 ?_;refine BZ ?_;refine Abi ?_
  rw [show (m:Int)-(i:Int)=((m-i:Nat):Int) from by omega]
  skip
  refine BA (swapRH_spec fn P1 A1 M1 B1 Q1 j k0 b c σ1 l2 l3 hO1 hl (m-i) m l1 (by omega)) rfl rfl takesZ rdZ rfl rfl ?_
  rintro _ _ ⟨rfl,σ2,hO2,rfl⟩;refine AE ?_;refine Aba ?_;refine BZ ?_;refine Acc ?_
  rw [show (i:Int)-(j:Int)=((i-j:Nat):Int) from by omega]
  exact AY ((i-j,j),(_,σ2)) ⟨hI2,hO2⟩ (by dsimp only; omega) covZ selZ
 ·obtain ⟨P1,A1,M1,B1,Q1,rfl,l1,l2,l3,l4,hI2⟩:=hI.right (by omega)
  refine Aap ?_;refine C3 ?_;refine Adr ?_;refine BW ?_;refine Aad ?_;refine Ac9 ?_;refine BZ ?_;refine Aal ?_;refine BY ?_;refine AB ?_;refine BZ ?_;refine Aal ?_
  rw [show (m:Int)-(i:Int)=((m-i:Nat):Int) from by omega,show (m:Int)+(j:Int)-(i:Int)=((m+j-i:Nat):Int) from by omega]
  skip
  refine BA (swapRH_spec fn P1 A1 M1 B1 Q1 i k0 b c σ1 l2 l3 hO1 hl (m-i) (m+j-i) l1 (by omega)) rfl rfl takesZ rdZ rfl rfl ?_
  rintro _ _ ⟨rfl,σ2,hO2,rfl⟩;refine AE ?_;refine Aba ?_;refine BZ ?_;refine Acc ?_
  rw [show (j:Int)-(i:Int)=((j-i:Nat):Int) from by omega]
  exact AY ((i,j-i),(_,σ2)) ⟨hI2,hO2⟩ (by dsimp only; omega) covZ selZ
theorem insertH_spec {cf:Hd→Hd→Int} (hc:Cmp cf) (fn:Value) (hcf:∀ x y:Hd,Ans Tryz.prog fn [.agg #[int x.n,int x.a,int x.b,int x.s,int x.k],.agg #[int y.n,int y.a,int y.b,int y.s,int y.k]] [] (fun r=>r=int (cf x y))) (P Y Q:List Hd) (k0 b c a bb:Nat) (σ:PH) (hO:OwA encH 5 246 b c k0 (P ++ Y ++ Q) σ) (hl:k0≤1000000) (ha:P.length=a) (hb:a+Y.length=bb) :
  Eng.Spec Tryz.prog (fv 248) [.slice (some ⟨b,0,none⟩) k0 c,int (a:Int),int (bb:Int),fn] [] [σ] (fun r H'=>r=.tuple #[]∧∃ Y' σ',Y'.Perm Y∧Srt cf Y'∧OwA encH 5 246 b c k0 (P ++ Y' ++ Q) σ'∧H'=[σ']):=by
 have hln:a+Y.length+Q.length=k0:=by rw [← hO.1]; simp only [List.length_append]; omega
 refine spec_in (cap:=[]) Tryz.func248 rfl rfl Tryz.ntmps248 rfl envZ (fun N β=>?_)
 cases Y with
 | nil =>
  have hab:a=bb:=by simpa using hb
  subst hab;refine Aab ?_;refine Abw ?_;refine AL ?_
  refine BF [0,1,2,3] (X:=Unit) () (fun _=>True) (fun _=>[(8,int ((a+1:Nat):Int))]) (fun _=>[σ]) (fun _=>0) pickZ trivial covZ selZ ?_
  rintro _ _;refine Acd ?_;exact A9 (res0 rfl) rsubZ selZ ⟨rfl,[],σ,List.Perm.refl _,.nil,hO,rfl⟩
 | cons y0 Y0 =>
 rw [List.length_cons] at hb hln;refine Aab ?_;refine Abw ?_;refine AL ?_
 refine BF [0,1,2,3] (X:=(Nat × (List Hd × List Hd)) × PH) ((a+1,([y0],Y0)),σ) (fun z=>z.1.1=a+z.1.2.1.length∧0<z.1.2.1.length∧(z.1.2.1 ++ z.1.2.2).Perm (y0::Y0)∧Srt cf z.1.2.1∧OwA encH 5 246 b c k0 (P ++ z.1.2.1 ++ z.1.2.2 ++ Q) z.2) (fun z=>[(8,int (z.1.1:Int))]) (fun z=>[z.2]) (fun z=>z.1.2.2.length) pickZ ⟨rfl,by simp,by simp,by simp,hO.cast (by simp)⟩ covZ selZ ?_
 rintro ⟨⟨i,⟨S,R⟩⟩,σ1⟩ ⟨hi,hS0,hp,hS,hO1⟩
 dsimp only at hi hS0 hp hS hO1 ⊢
 have hpl:=hp.length_eq
 rw [List.length_append,List.length_cons] at hpl
 cases R with
 | nil =>
  rw [List.length_nil] at hpl;refine Acd ?_
  exact A9 (res0 rfl) rsubZ selZ ⟨rfl,S,σ1,by simpa using hp,hS,hO1.cast (by simp),rfl⟩
 | cons e R =>
 rw [List.length_cons] at hpl;refine Aco ?_;refine Aau ?_;refine Aa9 ?_;refine AL ?_
 refine BF [0,1,2,3,8] (X:=(Nat × (List Hd × List Hd)) × PH) ((i,(S,[])),σ1) (fun z=>z.1.1=a+z.1.2.1.length∧z.1.2.1 ++ z.1.2.2=S∧(∀ y,z.1.2.2.head?=some y→cf e y≤0)∧OwA encH 5 246 b c k0 (P ++ z.1.2.1 ++ e::z.1.2.2 ++ R ++ Q) z.2) (fun z=>[(9,int (z.1.1:Int))]) (fun z=>[z.2]) (fun z=>z.1.2.1.length) pickZ ⟨hi,by simp,by simp,hO1.cast (by simp)⟩ covZ selZ ?_
 rintro ⟨⟨j,⟨A,B⟩⟩,σ2⟩ ⟨hj,hAB,hB,hO2⟩
 dsimp only at hj hAB hB hO2 ⊢
 have hABl:A.length+B.length=S.length:=by rw [← hAB,List.length_append]
 rcases List.eq_nil_or_concat A with rfl|⟨A1,z,rfl⟩
 ·rw [List.length_nil] at hj hABl
  refine AC ?_;refine AC ?_
  refine BD P3Z [] rfl (by kernel_rfl) selZ ?_
  refine Aar ?_;refine C6 ?_;refine Acz ?_;refine Abg ?_;refine BR ?_;refine BE ?_;refine Aax ?_;refine Acw ?_
  refine AY ((i+1,(e::B,R)),σ2) ⟨?_,by simp,?_,?_,hO2.cast (by simp)⟩ (by dsimp only; rw [List.length_cons]; omega) covZ selZ
  ·dsimp only; rw [List.length_cons]; omega
  ·dsimp only
   rw [← hAB] at hp;refine List.Perm.trans ?_ hp;simp only [List.nil_append,List.cons_append];exact List.perm_middle.symm
  ·dsimp only
   have:=srt_ins hc (A:=[]) (B:=B) (e:=e) (by rw [hAB]; exact hS) (by simp) hB
   simpa using this
 ·rw [List.concat_eq_append] at hAB hj hO2 hABl ⊢
  rw [List.length_append,List.length_singleton] at hj hABl
  obtain ⟨jj,rfl⟩:∃ jj,j=jj+1:=⟨a+A1.length,by omega⟩
  have hO3:OwA encH 5 246 b c k0 ((P ++ A1) ++ z::e::(B ++ R ++ Q)) σ2:=hO2.cast (by simp)
  have r1:=hO3.row encH_len (i:=jj+1) (x:=e) (at_nxt (by rw [List.length_append]; omega))
  have r2:=hO3.row encH_len (i:=jj+1-1) (x:=z) (at_mid (by rw [List.length_append]; omega))
  have hcc:=hcf e z
  obtain ⟨cv,hcv⟩:∃ cv,cf e z=cv:=⟨_,rfl⟩
  rw [hcv] at hcc;refine AC ?_;refine AC ?_
  refine BD (.q 0 (.q 1 (.q 2 (.q 3 (.q 4 (.q 5 (.q 6 (.q 7 (.q 8 (.q 9 (.q 10 (.q 11 (.q 12 (.q 13 (.l 14 .e (.q 15 (.q 16 .nil))))))))))))))))) [] rfl (by kernel_rfl) selZ ?_
  refine Aar ?_;refine E2 ?_;refine Aar ?_;refine Aar ?_;refine Ab9 ?_;refine BX ?_;refine Abc ?_;refine B4 (BP rfl hcc rfl rfl rdZ rfl rfl ?_);rintro _ rfl
  by_cases hlt:cv<0
  ·refine DO ?_
   refine BN ?_;refine BE ?_;refine Aav ?_
   refine BD (.q 0 (.q 1 (.p 2 (.p 3 (.p 4 (.q 5 (.q 6 (.q 7 (.q 8 (.q 9 (.q 10 (.q 11 (.q 12 (.q 13 (.q 14 (.l 15 .b (.q 16 (.l 17 .b .nil)))))))))))))))))) [] rfl (by kernel_rfl) selZ ?_
   refine Aar ?_;refine CD ?_;refine CD ?_;refine C8 ?_;refine Ada ?_;refine Acp ?_;refine Ack ?_;refine' DQ rfl _ rfl rfl _ _
   rotate_left
   ·exact CI encH_len (a:=z) (jj+1) hO3 rfl rfl rfl (by unfold encH; exact oneZ) rfl takeZ (by omega)
   ·rintro _ _ ⟨_,_,_,rfl⟩ w hw; exact hw.sel selZ
   rintro _ _ ⟨rfl,σ3,hO4,rfl⟩;refine Ack ?_;refine' DQ rfl _ rfl rfl _ _
   rotate_left
   ·exact CI encH_len (a:=e) (jj+1-1) hO4 rfl rfl rfl (by unfold encH; exact oneZ) rfl takeZ (by omega)
   ·rintro _ _ ⟨_,_,_,rfl⟩ w hw; exact hw.sel selZ
   rintro _ _ ⟨rfl,σ4,hO5,rfl⟩;refine BE ?_;refine Acb ?_;refine B7 ?_;refine Aaa ?_
   rw [sw_bwd (by rw [List.length_append]; omega) (by rw [List.length_append]; omega)] at hO5
   refine AY ((jj,(A1,z::B)),σ4) ⟨by dsimp only; omega,by dsimp only; rw [← hAB]; simp,?_,hO5.cast (by simp)⟩ (by dsimp only; rw [List.length_append,List.length_singleton]; omega) covZ selZ
   dsimp only
   intro y hy
   simp only [List.head?_cons,Option.some.injEq] at hy;subst hy;omega
  ·refine CX ?_
   refine BN ?_;refine BE ?_;refine Aax ?_;refine Acw ?_
   have hze:cf z e≤0:=hc.tot (by omega)
   refine AY ((i+1,(A1 ++ [z] ++ e::B,R)),σ2) ⟨?_,by dsimp only; simp only [List.length_append,List.length_cons,List.length_nil]; omega,?_,?_,hO2.cast (by simp)⟩ (by dsimp only; rw [List.length_cons]; omega) covZ selZ
   ·dsimp only; simp only [List.length_append,List.length_cons,List.length_nil]; omega
   ·dsimp only
    rw [← hAB] at hp;refine List.Perm.trans ?_ hp
    have:(A1 ++ [z] ++ e::(B ++ R)).Perm (e::(A1 ++ [z] ++ (B ++ R))):=List.perm_middle
    simp only [List.append_assoc,List.cons_append,List.nil_append] at this ⊢;refine this.trans ?_
    have h2:(e::(A1 ++ z::(B ++ R))).Perm (A1 ++ z::(B ++ e::R)):=by
     have h3:(A1 ++ z::B ++ e::R).Perm (e::(A1 ++ z::B ++ R)):=List.perm_middle
     simpa using h3.symm
    exact h2
   ·dsimp only
    refine srt_ins hc (by rw [hAB]; exact hS) (fun x hx=>?_) hB
    simp at hx
    subst hx;exact hze
theorem symMH_spec {cf:Hd→Hd→Int} (hc:Cmp cf) (fn:Value) (hcf:∀ x y:Hd,Ans Tryz.prog fn [.agg #[int x.n,int x.a,int x.b,int x.s,int x.k],.agg #[int y.n,int y.a,int y.b,int y.s,int y.k]] [] (fun r=>r=int (cf x y))) (k0 b c:Nat) (hl:k0≤1000000):∀ (d:Nat) (P U V Q:List Hd) (a m bb:Nat) (σ:PH),U.length+V.length≤d→OwA encH 5 246 b c k0 (P ++ U ++ V ++ Q) σ→P.length=a→a+U.length=m→m+V.length=bb→0<U.length→0<V.length→Srt cf U→Srt cf V →
  Eng.Spec Tryz.prog (fv 249) [.slice (some ⟨b,0,none⟩) k0 c,int (a:Int),int (m:Int),int (bb:Int),fn] [] [σ] (fun r H'=>r=.tuple #[]∧∃ W σ',W.Perm (U ++ V)∧Srt cf W∧OwA encH 5 246 b c k0 (P ++ W ++ Q) σ'∧H'=[σ']):=by
 intro d
 induction d with
 | zero=>intro P U V Q a m bb σ hd _ _ _ _ h1; omega
 | succ d ih =>
 intro P U V Q a m bb σ hd hO ha hm hb h1 h2 hU hV
 have hln:bb+Q.length=k0:=by rw [← hO.1]; simp only [List.length_append]; omega
 refine spec_in (cap:=[]) Tryz.func249 rfl rfl Tryz.ntmps249 rfl envZ (fun N β=>?_)
 by_cases hu1:U.length=1
 ·clear ih
  obtain ⟨u,rfl⟩:=List.length_eq_one_iff.1 hu1
  rw [List.length_singleton] at hm hd;subst hm
  have ra:=hO.row encH_len (i:=a) (x:=u) (getU ha (Nat.le_refl _) (by simp))
  refine Add ?_;refine CO ?_;refine Acv ?_;refine Aab ?_;refine Adc ?_
  refine BF [0,1,2,3,4] (X:=Nat × Nat) (a+1,bb) (fun z=>a+1≤z.1∧z.1≤z.2∧z.2≤bb∧(∀ y,a+1<z.1→V[z.1-1-(a+1)]?=some y→cf y u≤0)∧(∀ y,z.2<bb→V[z.2-(a+1)]?=some y→cf u y≤0)) (fun z=>[(10,int (z.1:Int)),(11,int (z.2:Int))]) (fun _=>[σ]) (fun z=>z.2-z.1) pickZ ⟨Nat.le_refl _,by dsimp only; omega,Nat.le_refl _,fun y h=>absurd h (Nat.lt_irrefl _),fun y h=>absurd h (Nat.lt_irrefl _)⟩ covZ selZ ?_
  rintro ⟨i,j⟩ ⟨g1,g2,g3,g4,g5⟩
  dsimp only at g1 g2 g3 g4 g5 ⊢
  by_cases hlt:i<j
  ·obtain ⟨h,hh⟩:∃ h,(i+j) / 2=h:=⟨_,rfl⟩
   obtain ⟨y,hy⟩:∃ y,V[h-(a+1)]?=some y:=⟨_,List.getElem?_eq_getElem (by omega)⟩
   have rh:=hO.row encH_len (i:=h) (x:=y) (getV (m:=a+1) (by rw [List.length_singleton]; omega) (by omega) hy)
   have hcc:=hcf y u
   obtain ⟨cv,hcv⟩:∃ cv,cf y u=cv:=⟨_,rfl⟩
   rw [hcv] at hcc;refine Aco ?_;refine Acj ?_;refine BY ?_
   rw [show (i:Int)+(j:Int)=((i+j:Nat):Int) from by omega]
   focus ((refine' CK _ rfl rfl rfl _; rotate_left; (apply EL; exact rfl; exact rfl; exact rfl; omega)))
   focus ((refine' CK _ rfl rfl rfl _; rotate_left; (apply CZ; exact rfl; exact rfl; decide)))
   refine CY ?_;refine Aaj ?_;rw [hh]
   refine BD (.q 0 (.q 1 (.q 2 (.q 3 (.q 4 (.q 5 (.q 6 (.q 7 (.q 8 (.l 9 .e (.q 10 .nil))))))))))) [] rfl (by kernel_rfl) selZ ?_
   refine Ac1 ?_;refine Acp ?_;refine B4 (BP rfl hcc rfl rfl rdZ rfl rfl ?_);rintro _ rfl
   by_cases hcl:cv<0
   ·refine DO ?_
    refine Abz ?_;refine Aby ?_;refine Abw ?_;refine A6 ?_
    refine AY (h+1,j) ⟨by dsimp only; omega,by dsimp only; omega,g3,fun z hz e=>?_,g5⟩ (by dsimp only; omega) covZ selZ
    dsimp only at hz e
    rw [show h+1-1-(a+1)=h-(a+1) by omega,hy] at e
    obtain rfl:=Option.some.inj e
    omega
   ·refine CX ?_
    refine Abn ?_;refine Aby ?_;refine Acc ?_
    refine AY (i,h) ⟨g1,by dsimp only; omega,by dsimp only; omega,g4,fun z hz e=>?_⟩ (by dsimp only; omega) covZ selZ
    dsimp only at hz e
    rw [hy] at e
    obtain rfl:=Option.some.inj e
    exact hc.tot (by omega)
  have hij:i=j:=by omega
  subst hij;refine Acd ?_;refine AC ?_;refine Aa9 ?_;refine AL ?_
  have hO0:OwA encH 5 246 b c k0 (shF P u V Q 0) σ:=hO.cast (by simp [shF])
  refine BF [0,1,2,3,4,10] (X:=Nat × PH) (0,σ) (fun z=>z.1≤i-(a+1)∧OwA encH 5 246 b c k0 (shF P u V Q z.1) z.2) (fun z=>[(13,int ((a+z.1:Nat):Int))]) (fun z=>[z.2]) (fun z=>i-(a+1)-z.1) pickZ ⟨Nat.zero_le _,hO0⟩ covZ selZ ?_
  rintro ⟨k,σ1⟩ ⟨hk,hO1⟩
  dsimp only at hk hO1 ⊢
  by_cases hlt2:k<i-(a+1)
  ·obtain ⟨y,F,G,e1,e2,e3⟩:=shF_step (P:=P) (u:=u) (Q:=Q) (show k<V.length by omega)
   rw [e1] at hO1
   have r1:=hO1.row encH_len (i:=a+k) (x:=u) (at_mid (by omega))
   have r2:=hO1.row encH_len (i:=a+k+1) (x:=y) (at_nxt (by omega))
   refine Aap ?_;refine B7 ?_;refine Abp ?_;refine Aau ?_
   refine BD (.q 0 (.q 1 (.p 2 (.p 3 (.p 4 (.q 5 (.q 6 (.q 7 (.q 8 (.q 9 (.q 10 (.q 11 (.q 12 (.q 13 (.q 14 (.l 15 .b (.q 16 (.l 17 .b .nil)))))))))))))))))) [] rfl (by kernel_rfl) selZ ?_
   refine Aar ?_;refine CD ?_;refine CD ?_;refine FV ?_;refine Aar ?_;refine FB ?_;refine Acp ?_;refine Ack ?_;refine' DQ rfl _ rfl rfl _ _
   rotate_left
   ·exact CI encH_len (a:=y) (a+k) hO1 rfl rfl rfl (by unfold encH; exact oneZ) rfl takeZ (by omega)
   ·rintro _ _ ⟨_,_,_,rfl⟩ w hw; exact hw.sel selZ
   rintro _ _ ⟨rfl,σ2,hO2,rfl⟩;refine Ack ?_;refine' DQ rfl _ rfl rfl _ _
   rotate_left
   ·exact CI encH_len (a:=u) (a+k+1) hO2 rfl rfl rfl (by unfold encH; exact oneZ) rfl takeZ (by omega)
   ·rintro _ _ ⟨_,_,_,rfl⟩ w hw; exact hw.sel selZ
   rintro _ _ ⟨rfl,σ3,hO3,rfl⟩;refine BE ?_;refine Acw ?_
   rw [sw_fwd (by omega),← e2] at hO3
   exact AY (k+1,σ3) ⟨by dsimp only; omega,hO3⟩ (by dsimp only; omega) covZ selZ
  ·have hke:k=i-(a+1):=by omega
   subst hke;refine Aap ?_;refine B7 ?_;refine Ab1 ?_
   obtain ⟨W,e1,e2,e3⟩:=shF_perm (P:=P) (u:=u) (V:=V) (Q:=Q) (i-(a+1))
   rw [e1] at hO1
   refine AT (res0 rfl) rsubZ selZ ⟨rfl,W,σ1,by simpa using e2,?_,hO1,rfl⟩
   rw [e3]
   refine put_ok hc (by omega) hV (fun y h0 hy=>g4 y (by omega) ?_) (fun y hy=>g5 y ?_ hy)
   ·rw [show i-1-(a+1)=i-(a+1)-1 by omega]; exact hy
   ·have:=(List.getElem?_eq_some_iff.1 hy).1; omega
 by_cases hv1:V.length=1
 ·clear ih
  obtain ⟨v,rfl⟩:=List.length_eq_one_iff.1 hv1
  rw [List.length_singleton] at hb hd;subst hb
  have rm:=hO.row encH_len (i:=m) (x:=v) (getV (m:=m) (by omega) (Nat.le_refl _) (by simp))
  refine Add ?_;refine Ad ?_;refine Add ?_;refine CO ?_;refine Acv ?_;refine Aab ?_;refine Adc ?_
  refine BF [0,1,2,3,4] (X:=Nat × Nat) (a,m) (fun z=>a≤z.1∧z.1≤z.2∧z.2≤m∧(∀ x,a<z.1→U[z.1-1-a]?=some x→cf x v≤0)∧(∀ x,z.2<m→U[z.2-a]?=some x→cf v x≤0)) (fun z=>[(14,int (z.1:Int)),(15,int (z.2:Int))]) (fun _=>[σ]) (fun z=>z.2-z.1) pickZ ⟨Nat.le_refl _,by dsimp only; omega,Nat.le_refl _,fun y h=>absurd h (Nat.lt_irrefl _),fun y h=>absurd h (Nat.lt_irrefl _)⟩ covZ selZ ?_
  rintro ⟨i,j⟩ ⟨g1,g2,g3,g4,g5⟩
  dsimp only at g1 g2 g3 g4 g5 ⊢
  by_cases hlt:i<j
  ·obtain ⟨h,hh⟩:∃ h,(i+j) / 2=h:=⟨_,rfl⟩
   obtain ⟨x,hx⟩:∃ x,U[h-a]?=some x:=⟨_,List.getElem?_eq_getElem (by omega)⟩
   have rh:=hO.row encH_len (i:=h) (x:=x) (getU ha (by omega) hx)
   have hcc:=hcf v x
   obtain ⟨cv,hcv⟩:∃ cv,cf v x=cv:=⟨_,rfl⟩
   rw [hcv] at hcc;refine Aco ?_;refine Acj ?_;refine BY ?_
   rw [show (i:Int)+(j:Int)=((i+j:Nat):Int) from by omega]
   focus ((refine' CK _ rfl rfl rfl _; rotate_left; (apply EL; exact rfl; exact rfl; exact rfl; omega)))
   focus ((refine' CK _ rfl rfl rfl _; rotate_left; (apply CZ; exact rfl; exact rfl; decide)))
   refine CY ?_;refine Aaj ?_;rw [hh]
   refine BD (.q 0 (.q 1 (.q 2 (.q 3 (.q 4 (.q 5 (.q 6 (.q 7 (.q 8 (.l 9 .e (.q 10 (.q 11 .nil)))))))))))) [] rfl (by kernel_rfl) selZ ?_
   refine Ac1 ?_;refine Acp ?_;refine B4 (BP rfl hcc rfl rfl rdZ rfl rfl ?_);rintro _ rfl
   by_cases hcl:cv<0
   ·refine DO ?_
    refine CW ?_;refine Abn ?_;refine Aby ?_;refine Acc ?_
    refine AY (i,h) ⟨g1,by dsimp only; omega,by dsimp only; omega,g4,fun z hz e=>?_⟩ (by dsimp only; omega) covZ selZ
    dsimp only at hz e
    rw [hx] at e
    obtain rfl:=Option.some.inj e
    omega
   ·refine CX ?_
    refine CW ?_;refine Abz ?_;refine Aby ?_;refine Abw ?_;refine A6 ?_
    refine AY (h+1,j) ⟨by dsimp only; omega,by dsimp only; omega,g3,fun z hz e=>?_,g5⟩ (by dsimp only; omega) covZ selZ
    dsimp only at hz e
    rw [show h+1-1-a=h-a by omega,hx] at e
    obtain rfl:=Option.some.inj e
    exact hc.tot (by omega)
  have hij:i=j:=by omega
  subst hij;refine Acd ?_;refine AC ?_;refine Aa9 ?_;refine AL ?_
  have hO0:OwA encH 5 246 b c k0 (shF P v U Q U.length) σ:=hO.cast (by simp [shF])
  refine BF [0,1,2,3,4,14] (X:=(Nat × Nat) × PH) ((m,U.length),σ) (fun z=>z.1.1=a+z.1.2∧i-a≤z.1.2∧z.1.2≤U.length∧OwA encH 5 246 b c k0 (shF P v U Q z.1.2) z.2) (fun z=>[(17,int (z.1.1:Int))]) (fun z=>[z.2]) (fun z=>z.1.2) pickZ ⟨by dsimp only; omega,by dsimp only; omega,Nat.le_refl _,hO0⟩ covZ selZ ?_
  rintro ⟨⟨p,k⟩,σ1⟩ ⟨hp,hk1,hk2,hO1⟩
  dsimp only at hp hk1 hk2 hO1 ⊢
  by_cases hlt2:i-a<k
  ·obtain ⟨kk,rfl⟩:∃ kk,k=kk+1:=⟨k-1,by omega⟩
   obtain ⟨pp,rfl⟩:∃ pp,p=pp+1:=⟨p-1,by omega⟩
   obtain ⟨x,F,G,e1,e2,e3⟩:=shF_step (P:=P) (u:=v) (Q:=Q) (show kk<U.length by omega)
   rw [e2] at hO1
   have r1:=hO1.row encH_len (i:=pp+1-1) (x:=x) (at_mid (by omega))
   have r2:=hO1.row encH_len (i:=pp+1) (x:=v) (at_nxt (by omega))
   refine Aap ?_;refine CS ?_;refine Aah ?_;refine Aau ?_
   refine BD (.q 0 (.q 1 (.p 2 (.p 3 (.p 4 (.q 5 (.q 6 (.q 7 (.q 8 (.q 9 (.q 10 (.q 11 (.q 12 (.q 13 (.q 14 (.l 15 .b (.q 16 (.l 17 .b .nil)))))))))))))))))) [] rfl (by kernel_rfl) selZ ?_
   refine Aar ?_;refine CD ?_;refine CD ?_;refine C8 ?_;refine Ada ?_;refine Acp ?_;refine Ack ?_;refine' DQ rfl _ rfl rfl _ _
   rotate_left
   ·exact CI encH_len (a:=x) (pp+1) hO1 rfl rfl rfl (by unfold encH; exact oneZ) rfl takeZ (by omega)
   ·rintro _ _ ⟨_,_,_,rfl⟩ w hw; exact hw.sel selZ
   rintro _ _ ⟨rfl,σ2,hO2,rfl⟩;refine Ack ?_;refine' DQ rfl _ rfl rfl _ _
   rotate_left
   ·exact CI encH_len (a:=v) (pp+1-1) hO2 rfl rfl rfl (by unfold encH; exact oneZ) rfl takeZ (by omega)
   ·rintro _ _ ⟨_,_,_,rfl⟩ w hw; exact hw.sel selZ
   rintro _ _ ⟨rfl,σ3,hO3,rfl⟩;refine BE ?_;refine Acb ?_;refine B7 ?_;refine Aaa ?_
   rw [sw_bwd (by omega) (by omega),← e1] at hO3
   exact AY ((pp,kk),σ3) ⟨by dsimp only; omega,by dsimp only; omega,by dsimp only; omega,hO3⟩ (by dsimp only; omega) covZ selZ
  ·have hke:k=i-a:=by omega
   subst hke;refine Aap ?_;refine BW ?_;refine Aa1 ?_
   obtain ⟨W,e1,e2,e3⟩:=shF_perm (P:=P) (u:=v) (V:=U) (Q:=Q) (i-a)
   rw [e1] at hO1;refine AT (res0 rfl) rsubZ selZ ⟨rfl,W,σ1,e2.trans (List.perm_append_singleton v U).symm,?_,hO1,rfl⟩;rw [e3]
   refine put_ok hc (by omega) hU (fun y h0 hy=>g4 y (by omega) ?_) (fun y hy=>g5 y ?_ hy)
   ·rw [show i-1-a=i-a-1 by omega]; exact hy
   ·have:=(List.getElem?_eq_some_iff.1 hy).1; omega
 refine Add ?_;refine Ad ?_;refine Add ?_;refine Ad ?_;refine Aag ?_;refine BY ?_
 rw [show (a:Int)+(bb:Int)=((a+bb:Nat):Int) from by omega]
 focus ((refine' CK _ rfl rfl rfl _; rotate_left; (apply EL; exact rfl; exact rfl; exact rfl; omega)))
 focus ((refine' CK _ rfl rfl rfl _; rotate_left; (apply CZ; exact rfl; exact rfl; decide)))
 refine CY ?_;refine Aaa ?_
 obtain ⟨mid,hmid⟩:∃ mid,(a+bb) / 2=mid:=⟨_,rfl⟩
 rw [hmid];refine Aag ?_;refine BY ?_;refine Aaa ?_
 rw [show (mid:Int)+(m:Int)=((mid+m:Nat):Int) from by omega]
 refine Aa ?_;refine Ace ?_
 refine C9 (X:=Nat × Nat) [0,1,2,3,4,18,19] (fun z=>z=(if mid<m then (mid+m-bb,mid) else (a,m))) (fun z=>[(20,int (z.1:Int)),(21,int (z.2:Int))]) (fun _=>[σ]) pickZ ?_ ?_
 ·by_cases hmm:mid<m
  ·refine AC ?_
   refine Aba ?_;refine CS ?_;refine Aah ?_;refine Aag ?_;refine BZ ?_;refine Aaa ?_;refine Aby ?_;refine Aaa ?_
   rw [show ((mid+m:Nat):Int)-(bb:Int)=((mid+m-bb:Nat):Int) from by omega]
   skip
   exact B8 (mid+m-bb,mid) (by rw [if_pos hmm]) covZ selZ
  ·refine AC ?_
   refine Aba ?_;refine BW ?_;refine Aad ?_;refine Aa9 ?_;refine Aby ?_;refine Aaa ?_
   exact B8 (a,m) (by rw [if_neg hmm]) covZ selZ
 rintro ⟨lo,hi⟩ hz
 dsimp only
 have hlo:a≤lo∧lo≤hi∧hi≤mid∧hi≤m∧(lo=a∨mid-lo=V.length)∧(hi=mid∨hi=m)∧mid≤lo+V.length:=by
  split at hz <;> (simp only [Prod.mk.injEq] at hz; omega)
 clear hz
 obtain ⟨q1,q2,q3,q4,q5,q6,q7⟩:=hlo
 refine Aab ?_;refine B7 ?_;refine Adc ?_
 refine BF [0,1,2,3,4,18,19,22] (X:=Nat × Nat) (lo,hi) (fun z=>lo≤z.1∧z.1≤z.2∧z.2≤hi∧(∀ x y,lo<z.1→U[z.1-1-a]?=some x→V[mid-z.1]?=some y→cf x y≤0)∧(∀ x y,z.2<hi→V[mid-z.2-1]?=some x→U[z.2-a]?=some y→cf x y≤0)) (fun z=>[(20,int (z.1:Int)),(21,int (z.2:Int))]) (fun _=>[σ]) (fun z=>z.2-z.1) pickZ ⟨Nat.le_refl _,q2,Nat.le_refl _,fun x y h=>absurd h (Nat.lt_irrefl _),fun x y h=>absurd h (Nat.lt_irrefl _)⟩ covZ selZ ?_
 rintro ⟨st,r⟩ ⟨g1,g2,g3,g4,g5⟩
 dsimp only at g1 g2 g3 g4 g5 ⊢
 by_cases hlt:st<r
 ·clear ih
  obtain ⟨h,hh⟩:∃ h,(st+r) / 2=h:=⟨_,rfl⟩
  obtain ⟨x,hx⟩:∃ x,U[h-a]?=some x:=⟨_,List.getElem?_eq_getElem (by omega)⟩
  obtain ⟨y,hy⟩:∃ y,V[mid-h-1]?=some y:=⟨_,List.getElem?_eq_getElem (by omega)⟩
  have rh:=hO.row encH_len (i:=h) (x:=x) (getU ha (by omega) hx)
  have rv:=hO.row encH_len (i:=mid+m-1-h) (x:=y) (getV (m:=m) (by omega) (by omega) (by rw [show mid+m-1-h-m=mid-h-1 by omega]; exact hy))
  have hcc:=hcf y x
  obtain ⟨cv,hcv⟩:∃ cv,cf y x=cv:=⟨_,rfl⟩
  rw [hcv] at hcc;refine Aco ?_;refine Acj ?_;refine BY ?_
  rw [show (st:Int)+(r:Int)=((st+r:Nat):Int) from by omega]
  focus ((refine' CK _ rfl rfl rfl _; rotate_left; (apply EL; exact rfl; exact rfl; exact rfl; omega)))
  focus ((refine' CK _ rfl rfl rfl _; rotate_left; (apply CZ; exact rfl; exact rfl; decide)))
  refine CY ?_;refine Aaj ?_;rw [hh]
  refine BD (.q 0 (.q 1 (.q 2 (.q 3 (.q 4 (.q 5 (.q 6 (.q 7 (.q 8 (.q 9 (.q 10 (.l 11 .e (.q 12 (.q 13 .nil)))))))))))))) [] rfl (by kernel_rfl) selZ ?_
  refine Aar ?_;refine Aar ?_;refine D5 ?_
  rw [show ((mid+m-1:Nat):Int)-(h:Int)=((mid+m-1-h:Nat):Int) from by omega]
  refine Acp ?_;refine B4 (BP rfl hcc rfl rfl rdZ rfl rfl ?_);rintro _ rfl
  by_cases hcl:cv<0
  ·refine DO ?_
   refine CW ?_;refine Abn ?_;refine Aby ?_;refine Acc ?_
   refine AY (st,h) ⟨g1,by dsimp only; omega,by dsimp only; omega,g4,fun z1 z2 hz e1 e2=>?_⟩ (by dsimp only; omega) covZ selZ
   dsimp only at hz e1 e2
   rw [hy] at e1;rw [hx] at e2
   obtain rfl:=Option.some.inj e1
   obtain rfl:=Option.some.inj e2
   omega
  ·refine CX ?_
   refine CW ?_;refine Abz ?_;refine Aby ?_;refine Abw ?_;refine A6 ?_
   refine AY (h+1,r) ⟨by dsimp only; omega,by dsimp only; omega,g3,fun z1 z2 hz e1 e2=>?_,g5⟩ (by dsimp only; omega) covZ selZ
   dsimp only at hz e1 e2
   rw [show h+1-1-a=h-a by omega,hx] at e1
   rw [show mid-(h+1)=mid-h-1 by omega,hy] at e2
   obtain rfl:=Option.some.inj e1
   obtain rfl:=Option.some.inj e2
   exact hc.tot (by omega)
 have hst:st=r:=by omega
 subst hst
 have hok:=sym_ok hc hU hV (h:=mid-a) (s:=st-a) (by omega) (by omega) (by omega)
  (fun x y h0 e1 e2=>by
   rw [show mid-a-(st-a)=mid-st by omega] at e2
   by_cases hl2:lo<st
   ·exact g4 x y hl2 (by rw [show st-1-a=st-a-1 by omega]; exact e1) e2
   ·have:=(List.getElem?_eq_some_iff.1 e2).1; omega)
  (fun x y h0 e1 e2=>by
   rw [show mid-a-(st-a)-1=mid-st-1 by omega] at e1
   by_cases hl2:st<hi
   ·exact g5 x y hl2 e1 e2
   ·have:=(List.getElem?_eq_some_iff.1 e2).1; omega)
 rw [show mid-a-(st-a)=mid-st by omega] at hok
 have eU:=List.take_append_drop (st-a) U
 have eV:=List.take_append_drop (mid-st) V
 have lU1:(U.take (st-a)).length=st-a:=by rw [List.length_take]; omega
 have lU2:(U.drop (st-a)).length=m-st:=by rw [List.length_drop]; omega
 have lV1:(V.take (mid-st)).length=mid-st:=by rw [List.length_take]; omega
 have lV2:(V.drop (mid-st)).length=bb-m-(mid-st):=by rw [List.length_drop]; omega
 have pUV:((U.take (st-a) ++ V.take (mid-st)) ++ (U.drop (st-a) ++ V.drop (mid-st))).Perm (U ++ V):=by
  conv=>rhs; rw [← eU,← eV]
  simp only [List.append_assoc];refine List.Perm.append_left _ ?_;rw [← List.append_assoc,← List.append_assoc];exact List.Perm.append_right _ List.perm_append_comm
 have hO0:OwA encH 5 246 b c k0 (P ++ (U.take (st-a) ++ U.drop (st-a)) ++ (V.take (mid-st) ++ V.drop (mid-st)) ++ Q) σ:=by rw [eU,eV]; exact hO
 have sU1:Srt cf (U.take (st-a)):=hU.sublist (List.take_sublist _ _)
 have sU2:Srt cf (U.drop (st-a)):=hU.sublist (List.drop_sublist _ _)
 have sV1:Srt cf (V.take (mid-st)):=hV.sublist (List.take_sublist _ _)
 have sV2:Srt cf (V.drop (mid-st)):=hV.sublist (List.drop_sublist _ _)
 clear g4 g5 hO
 generalize U.take (st-a)=U1 at *
 generalize U.drop (st-a)=U2 at *
 generalize V.take (mid-st)=V1 at *
 generalize V.drop (mid-st)=V2 at *
 refine Acd ?_;refine Aag ?_;refine BZ ?_;refine Aaa ?_
 rw [show ((mid+m:Nat):Int)-(st:Int)=((mid+m-st:Nat):Int) from by omega]
 skip
 refine AC ?_
 refine C9 (X:=PH) [0,1,2,3,4,18,20,24] (fun z=>OwA encH 5 246 b c k0 (P ++ U1 ++ V1 ++ U2 ++ V2 ++ Q) z) (fun _=>[]) (fun z=>[z]) pickZ ?_ ?_
 ·have nop:U2=[]∨V1=[]→OwA encH 5 246 b c k0 (P ++ U1 ++ V1 ++ U2 ++ V2 ++ Q) σ:=fun h=>hO0.cast (by rcases h with rfl|rfl <;> simp)
  by_cases c1:st<m
  ·by_cases c2:m<mid+m-st
   ·have hro:=rotateH_spec fn (P ++ U1) U2 V1 (V2 ++ Q) k0 b c st m (mid+m-st) σ (hO0.cast (by simp)) hl (by rw [List.length_append]; omega) (by omega) (by omega) (by omega) (by omega)
    refine Ads ?_;refine BK ?_;refine Ac4 ?_;refine Adt ?_;refine BA hro rfl rfl takesZ rdZ rfl rfl ?_;rintro _ _ ⟨rfl,σ1,hO1,rfl⟩;refine AE ?_
    exact B8 σ1 (hO1.cast (by simp)) covZ selZ
   ·refine AC ?_
    refine Aba ?_;refine Acy ?_;refine A7 ?_;refine Adb ?_
    exact B8 σ (nop (.inr (List.length_eq_zero_iff.1 (by omega)))) covZ selZ
  ·refine AC ?_
   refine Aba ?_;refine A7 ?_;refine Abd ?_;refine Ab3 ?_
   exact B8 σ (nop (.inl (List.length_eq_zero_iff.1 (by omega)))) covZ selZ
 rintro σ1 hO1;clear hO0;refine AC ?_
 refine C9 (X:=List Hd × PH) [0,1,2,3,4,18,20,24] (fun z=>z.1.Perm (U1 ++ V1)∧Srt cf z.1∧OwA encH 5 246 b c k0 (P ++ z.1 ++ U2 ++ V2 ++ Q) z.2) (fun _=>[]) (fun z=>[z.2]) pickZ ?_ ?_
 ·have nop:U1=[]∨V1=[]→(U1 ++ V1).Perm (U1 ++ V1)∧Srt cf (U1 ++ V1)∧OwA encH 5 246 b c k0 (P ++ (U1 ++ V1) ++ U2 ++ V2 ++ Q) σ1:=fun h=>⟨List.Perm.refl _,by rcases h with rfl|rfl <;> simpa,hO1.cast (by simp)⟩
  by_cases c1:a<st
  ·by_cases c2:st<mid
   ·have hih:=ih P U1 V1 (U2 ++ V2 ++ Q) a st mid σ1 (by omega) (hO1.cast (by simp)) ha (by omega) (by omega) (by omega) (by omega) sU1 sV1
    refine Ads ?_;refine BK ?_;refine Ac4 ?_;refine Adt ?_;refine BA hih rfl rfl takesZ rdZ rfl rfl ?_;rintro _ _ ⟨rfl,W1,σ2,p1,s1,hO2,rfl⟩;refine AE ?_
    exact B8 (W1,σ2) ⟨p1,s1,hO2.cast (by simp)⟩ covZ selZ
   ·refine AC ?_
    refine Aba ?_;refine Acy ?_;refine A7 ?_;refine Adb ?_
    exact B8 (U1 ++ V1,σ1) (nop (.inr (List.length_eq_zero_iff.1 (by omega)))) covZ selZ
  ·refine AC ?_
   refine Aba ?_;refine A7 ?_;refine Abd ?_;refine Ab3 ?_
   exact B8 (U1 ++ V1,σ1) (nop (.inl (List.length_eq_zero_iff.1 (by omega)))) covZ selZ
 rintro ⟨W1,σ2⟩ ⟨p1,s1,hO2⟩
 dsimp only at p1 s1 hO2 ⊢
 have lW1:=p1.length_eq
 rw [List.length_append] at lW1
 have fin:∀ W2:List Hd,W2.Perm (U2 ++ V2)→Srt cf W2→(W1 ++ W2).Perm (U ++ V)∧Srt cf (W1 ++ W2):=fun W2 p2 s2=>⟨(List.Perm.append p1 p2).trans pUV,srt_halves hc s1 s2 p1 p2 hok⟩
 have nop:U2=[]∨V2=[]→Srt cf (U2 ++ V2):=fun h=>by rcases h with rfl|rfl <;> simpa
 by_cases c1:mid<mid+m-st
 ·by_cases c2:mid+m-st<bb
  ·have hih:=ih (P ++ W1) U2 V2 Q mid (mid+m-st) bb σ2 (by omega) (hO2.cast (by simp)) (by rw [List.length_append]; omega) (by omega) (by omega) (by omega) (by omega) sU2 sV2
   refine Ads ?_;refine BK ?_;refine Ac4 ?_;refine Adt ?_;refine BA hih rfl rfl takesZ rdZ rfl rfl ?_;rintro _ _ ⟨rfl,W2,σ3,p2,s2,hO3,rfl⟩;refine AE ?_
   exact A9 (res0 rfl) rsubZ selZ ⟨rfl,W1 ++ W2,σ3,(fin W2 p2 s2).1,(fin W2 p2 s2).2,hO3.cast (by simp),rfl⟩
  ·have f:=fin (U2 ++ V2) (List.Perm.refl _) (nop (.inr (List.length_eq_zero_iff.1 (by omega))))
   refine Ads ?_;refine A7 ?_;refine Adb ?_
   exact A9 (res0 rfl) rsubZ selZ ⟨rfl,W1 ++ (U2 ++ V2),σ2,f.1,f.2,hO2.cast (by simp),rfl⟩
 ·have f:=fin (U2 ++ V2) (List.Perm.refl _) (nop (.inl (List.length_eq_zero_iff.1 (by omega))))
  refine Aag ?_;refine A7 ?_;refine Abd ?_;refine Ab3 ?_
  exact A9 (res0 rfl) rsubZ selZ ⟨rfl,W1 ++ (U2 ++ V2),σ2,f.1,f.2,hO2.cast (by simp),rfl⟩
theorem insert0H_spec (v fn:Value):Ans Tryz.prog (fv 248) [v,int 0,int 0,fn] [] (fun r=>r=.tuple #[]):=by
 refine spec_in (cap:=[]) Tryz.func248 rfl rfl Tryz.ntmps248 rfl envZ (fun N β=>?_)
 refine Aab ?_;refine BY ?_;refine Aaa ?_;refine AL ?_
 refine BF [0,1,2,3] (X:=Unit) () (fun _=>True) (fun _=>[(8,int 1)]) (fun _=>[]) (fun _=>0) pickZ trivial covZ selZ ?_
 rintro _ _;refine Acd ?_;exact A9 (res0 rfl) rsubZ selZ ⟨rfl,rfl⟩
theorem stable0H_spec (v fn:Value):Ans Tryz.prog (fv 195) [v,int 0,fn] [] (fun r=>r=.tuple #[]):=by
 refine spec_in (cap:=[]) Tryz.func195 rfl rfl Tryz.ntmps195 rfl envZ (fun N β=>?_)
 refine Aaq ?_;refine Aab ?_;refine Ace ?_;refine AL ?_
 refine BF [0,1,2,6] (X:=Unit) () (fun _=>True) (fun _=>[(7,int 0),(8,int 20)]) (fun _=>[]) (fun _=>0) pickZ trivial covZ selZ ?_
 rintro _ _;refine Aap ?_;refine DA ?_;refine Aa1 ?_;refine Aag ?_;refine Aal ?_;refine AZ (insert0H_spec v fn) rfl rfl rdZ rfl rfl ?_;rintro _ rfl;refine Adi ?_
 refine BF [0,1,2,6] (X:=Unit) () (fun _=>True) (fun _=>[]) (fun _=>[]) (fun _=>0) pickZ trivial covZ selZ ?_
 rintro _ _;refine Acd ?_;exact A9 (res0 rfl) rsubZ selZ ⟨rfl,rfl⟩
theorem stableH_spec {cf:Hd→Hd→Int} (hc:Cmp cf) (fn:Value) (hcf:∀ x y:Hd,Ans Tryz.prog fn [.agg #[int x.n,int x.a,int x.b,int x.s,int x.k],.agg #[int y.n,int y.a,int y.b,int y.s,int y.k]] [] (fun r=>r=int (cf x y))) (l:List Hd) (n b c:Nat) (σ:PH) (hO:OwA encH 5 246 b c n l σ) (hl:n≤1000000) :
  Eng.Spec Tryz.prog (fv 195) [.slice (some ⟨b,0,none⟩) n c,int (n:Int),fn] [] [σ] (fun r H'=>r=.tuple #[]∧∃ l' σ',l'.Perm l∧Srt cf l'∧OwA encH 5 246 b c n l' σ'∧H'=[σ']):=by
 have hln:=hO.1
 refine spec_in (cap:=[]) Tryz.func195 rfl rfl Tryz.ntmps195 rfl envZ (fun N β=>?_)
 refine Aaq ?_;refine Aab ?_;refine Ace ?_;refine AL ?_
 refine BF [0,1,2,6] (X:=(Nat × (List Hd × List Hd)) × PH) ((0,([],l)),σ) (fun z=>Beg cf 20 z.1.2.1∧z.1.2.1.length=z.1.1∧(z.1.2.1 ++ z.1.2.2).Perm l∧OwA encH 5 246 b c n (z.1.2.1 ++ z.1.2.2) z.2) (fun z=>[(7,int (z.1.1:Int)),(8,int ((z.1.1+20:Nat):Int))]) (fun z=>[z.2]) (fun z=>z.1.2.2.length) pickZ ⟨Beg.nil,rfl,List.Perm.refl _,hO⟩ covZ selZ ?_
 rintro ⟨⟨a,⟨D,R⟩⟩,σ1⟩ ⟨hB,hD,hp,hO1⟩
 dsimp only at hB hD hp hO1 ⊢
 have hpl:=hp.length_eq
 rw [List.length_append] at hpl
 by_cases hlt:a+20≤n
 ·have eR:=List.take_append_drop 20 R
  have l1:(R.take 20).length=20:=by rw [List.length_take]; omega
  have l2:(R.drop 20).length=R.length-20:=List.length_drop
  rw [← eR] at hp hO1
  generalize R.take 20=R1 at *
  generalize R.drop 20=R2 at *
  have hins:=insertH_spec hc fn hcf D R1 R2 n b c a (a+20) σ1 (hO1.cast (by simp)) hl hD (by omega)
  refine Aap ?_;refine ES ?_;refine Adr ?_;refine Aal ?_;refine BA hins rfl rfl takesZ rdZ rfl rfl ?_;rintro _ _ ⟨rfl,Y,σ2,pY,sY,hO2,rfl⟩
  have lY:=pY.length_eq
  refine AE ?_;refine Aa9 ?_;refine Aba ?_;refine BY ?_;refine Acc ?_
  rw [show ((a+20:Nat):Int)+20=((a+20+20:Nat):Int) from by omega]
  refine AY ((a+20,(D ++ Y,R2)),σ2) ⟨hB.snoc (by omega) sY,by dsimp only; rw [List.length_append]; omega,?_,hO2⟩ (by dsimp only; omega) covZ selZ
  dsimp only
  refine List.Perm.trans ?_ hp;rw [List.append_assoc];exact List.Perm.append_left _ (List.Perm.append_right _ pY)
 refine Aap ?_;refine DA ?_;refine Aa1 ?_;refine Aag ?_;refine Aal ?_
 have hins:=insertH_spec hc fn hcf D R [] n b c a n σ1 (hO1.cast (by simp)) hl hD (by omega)
 refine BA hins rfl rfl takesZ rdZ rfl rfl ?_;rintro _ _ ⟨rfl,Y,σ2,pY,sY,hO2,rfl⟩
 have lY:=pY.length_eq
 have hK0:Blk cf 20 (D ++ Y):=hB.done (by omega) sY
 have hP0:(D ++ Y).Perm l:=(List.Perm.append_left _ pY).trans hp
 have hO3:OwA encH 5 246 b c n (D ++ Y) σ2:=hO2.cast (by simp)
 clear hO hO1 hO2 hB hp hins;refine Adi ?_
 refine BF [0,1,2] (X:=(Nat × List Hd) × PH) ((20,D ++ Y),σ2) (fun z=>Blk cf z.1.1 z.1.2∧0<z.1.1∧z.1.1≤2*n+20∧z.1.2.Perm l∧OwA encH 5 246 b c n z.1.2 z.2) (fun z=>[(6,int (z.1.1:Int))]) (fun z=>[z.2]) (fun z=>n-z.1.1) pickZ ⟨hK0,by dsimp only; omega,by dsimp only; omega,hP0,hO3⟩ covZ selZ ?_
 clear hK0 hP0 hO3;rintro ⟨⟨bs,L⟩,σ3⟩ ⟨hK,hb0,hb1,hp,hO⟩
 dsimp only at hK hb0 hb1 hp hO ⊢
 have hLl:=hO.1
 by_cases hlt2:bs<n
 rotate_left
 ·refine AC ?_
  refine Aag ?_;refine Ab1 ?_
  exact A9 (res0 rfl) rsubZ selZ ⟨rfl,L,σ3,hp,hK.small (by omega) hb0,hO,rfl⟩
 refine Aco ?_;refine Ach ?_;refine Aab ?_;refine EW ?_;refine Ace ?_;refine AL ?_
 refine BF [0,1,2,6] (X:=(Nat × (List Hd × List Hd)) × PH) ((0,([],L)),σ3) (fun z=>Beg cf (2*bs) z.1.2.1∧z.1.2.1.length=z.1.1∧Blk cf bs z.1.2.2∧(z.1.2.1 ++ z.1.2.2).Perm l∧OwA encH 5 246 b c n (z.1.2.1 ++ z.1.2.2) z.2) (fun z=>[(7,int (z.1.1:Int)),(8,int ((z.1.1+2*bs:Nat):Int))]) (fun z=>[z.2]) (fun z=>z.1.2.2.length) pickZ ⟨Beg.nil,rfl,hK,hp,hO⟩ ?_ selZ ?_
 ·rw [Nat.zero_add]; exact covZ
 clear hK hO hp;rintro ⟨⟨a,⟨D,R⟩⟩,σ4⟩ ⟨hB,hD,hK,hp,hO⟩
 dsimp only at hB hD hK hp hO ⊢
 have hpl:=hO.1
 rw [List.length_append] at hpl
 by_cases hlt3:a+2*bs≤n
 ·obtain ⟨s1,_,h2⟩:=hK.two hb0 (by omega)
  obtain ⟨s2,k2⟩:=h2 (by omega)
  have eR:R.take bs ++ ((R.drop bs).take bs ++ R.drop (2*bs))=R:=by
   rw [show 2*bs=bs+bs by omega,← List.drop_drop,List.take_append_drop,List.take_append_drop]
  have l1:(R.take bs).length=bs:=by rw [List.length_take]; omega
  have l2:((R.drop bs).take bs).length=bs:=by rw [List.length_take,List.length_drop]; omega
  have l3:(R.drop (2*bs)).length=R.length-2*bs:=List.length_drop
  rw [← eR] at hp hO
  generalize R.take bs=U at *
  generalize (R.drop bs).take bs=V at *
  generalize R.drop (2*bs)=R2 at *
  have hsm:=symMH_spec hc fn hcf n b c hl _ D U V R2 a (a+bs) (a+2*bs) σ4 (Nat.le_refl _) (hO.cast (by simp)) hD (by omega) (by omega) (by omega) (by omega) s1 s2
  refine Aap ?_;refine ES ?_;refine Adr ?_;refine Aal ?_;refine BY ?_;refine Aal ?_
  rw [show (a:Int)+(bs:Int)=((a+bs:Nat):Int) from by omega]
  refine BA hsm rfl rfl takesZ rdZ rfl rfl ?_;rintro _ _ ⟨rfl,W,σ5,pW,sW,hO5,rfl⟩
  have lW:=pW.length_eq
  rw [List.length_append] at lW;refine AE ?_;refine Aa9 ?_;refine Aba ?_;refine EW ?_;refine BY ?_;refine Acc ?_
  rw [show ((a+2*bs:Nat):Int)+((2*bs:Nat):Int)=((a+2*bs+2*bs:Nat):Int) from by omega]
  refine AY ((a+2*bs,(D ++ W,R2)),σ5) ⟨hB.snoc (by omega) sW,by dsimp only; rw [List.length_append]; omega,k2,?_,hO5⟩ (by dsimp only; omega) covZ selZ
  dsimp only
  refine List.Perm.trans ?_ hp;rw [List.append_assoc];refine List.Perm.append_left _ ?_;rw [← List.append_assoc];exact List.Perm.append_right _ pW
 refine Aap ?_;refine DA ?_;refine Aa1 ?_;refine Aap ?_;refine BY ?_;refine Acu ?_
 rw [show (a:Int)+(bs:Int)=((a+bs:Nat):Int) from by omega]
 by_cases hm:a+bs<n
 ·obtain ⟨s1,h2,_⟩:=hK.two hb0 (by omega)
  have s2:=h2 (by omega)
  have eR:R.take bs ++ R.drop bs=R:=List.take_append_drop _ _
  have l1:(R.take bs).length=bs:=by rw [List.length_take]; omega
  have l2:(R.drop bs).length=R.length-bs:=List.length_drop
  rw [← eR] at hp hO
  generalize R.take bs=U at *
  generalize R.drop bs=V at *
  have hsm:=symMH_spec hc fn hcf n b c hl _ D U V [] a (a+bs) n σ4 (Nat.le_refl _) (hO.cast (by simp)) hD (by omega) (by omega) (by omega) (by omega) s1 s2
  refine Abp ?_;refine Adt ?_;refine BA hsm rfl rfl takesZ rdZ rfl rfl ?_;rintro _ _ ⟨rfl,W,σ5,pW,sW,hO5,rfl⟩
  have lW:=pW.length_eq
  rw [List.length_append] at lW;refine AE ?_;refine Aby ?_;refine EH ?_;refine Acc ?_
  rw [show (bs:Int)*2=((2*bs:Nat):Int) from by omega]
  exact AY ((2*bs,D ++ W),σ5) ⟨hB.done (by omega) sW,by dsimp only; omega,by dsimp only; omega,(List.Perm.append_left _ pW).trans hp,hO5.cast (by simp)⟩ (by dsimp only; omega) covZ selZ
 ·refine A7 ?_
  refine Aai ?_;refine Aby ?_;refine EH ?_;refine Acc ?_
  rw [show (bs:Int)*2=((2*bs:Nat):Int) from by omega]
  exact AY ((2*bs,D ++ R),σ4) ⟨hB.done (by omega) (hK.small (by omega) hb0),by dsimp only; omega,by dsimp only; omega,hp,hO⟩ (by dsimp only; omega) covZ selZ
theorem sortStH_spec {cf:Hd→Hd→Int} (hc:Cmp cf) (fn:Value) (hcf:∀ x y:Hd,Ans Tryz.prog fn [.agg #[int x.n,int x.a,int x.b,int x.s,int x.k],.agg #[int y.n,int y.a,int y.b,int y.s,int y.k]] [] (fun r=>r=int (cf x y))) (l:List Hd) (v:Value) (σ:PH) (hO:OwnS 246 5 v l.length (l.flatMap encH) σ) (hl:l.length≤1000000) :
  Eng.Spec Tryz.prog (fv 140) [v,fn] [] [σ] (fun r H'=>r=.tuple #[]∧∃ l' σ',l'.Perm l∧Srt cf l'∧OwnS 246 5 v l'.length (l'.flatMap encH) σ'∧H'=[σ']):=by
 refine spec_in (cap:=[]) Tryz.func140 rfl rfl Tryz.ntmps140 rfl envZ (fun N β=>?_)
 rcases hO.block with ⟨rfl,rfl,rfl⟩|⟨b,cap,cur,rfl,_⟩
 ·refine AA ?_
  refine Aal ?_;refine BC ?_;refine AB ?_;refine AZ (stable0H_spec _ fn) rfl rfl rdZ rfl rfl ?_;rintro _ rfl;refine AE ?_;exact A9 (res0 rfl) rsubZ selZ ⟨rfl,[],emp,List.Perm.refl _,.nil,hO,rfl⟩
 ·have hst:=stableH_spec hc fn hcf l l.length b cap σ ⟨rfl,hO⟩ hl
  refine Aba ?_;refine BC ?_;refine AB ?_;refine BA hst rfl rfl takesZ rdZ rfl rfl ?_;rintro _ _ ⟨rfl,l',σ',p,s,hO',rfl⟩;refine AE ?_;refine A9 (res0 rfl) rsubZ selZ ⟨rfl,l',σ',p,s,?_,rfl⟩;rw [p.length_eq];exact hO'.2
end Go.Proofs.YtglifndogffmkaaGreat
namespace Go.Step
open Go.Sym
theorem cmp_bk:Cmp cmpBk:=by
  refine ⟨fun {x y z} h1 h2=>?_,fun {x y} h=>?_⟩
  · rw [cmpBk_le] at *; omega
  · rw [cmpBk_lt] at h
    rw [cmpBk_le]; omega
theorem cmp_hd:Cmp cmpHd:=by
  refine ⟨fun {x y z} h1 h2=>cmpHd_trans h1 h2,fun {x y} h=>?_⟩
  have:=cmpHd_neg x y
  omega
end Go.Step
namespace Go.Proofs.YtglifndogffmkaaGreat
open Go.Eng Go.Step
set_option maxRecDepth 100000
set_option maxHeartbeats 64000000
theorem tlCmpB1_spec (x y:Bk):Ans Tryz.prog (fv 136) [.agg #[int x.c,int x.a,int x.b,int x.k],.agg #[int y.c,int y.a,int y.b,int y.k]] [] (fun r=>r=int (cmpBk x y)):=by
 refine spec_in (cap:=[]) Tryz.func136 rfl rfl Tryz.ntmps136 rfl envZ (fun N β=>?_)
 refine Aa ?_;refine BU ?_; rintro _ _ ⟨b,rfl,rfl⟩;refine BU ?_; rintro _ _ ⟨b,rfl,rfl⟩;refine Aaj ?_
 refine BD (.q 0 (.q 1 (.q 2 (.q 3 (.q 5 (.q 6 (.q 7 (.q 8 (.l 4 .e (.l 9 .e (.l 10 .e (.l 11 .e (.q 12 .nil))))))))))))) [] rfl (by kernel_rfl) selZ ?_
 refine Adp ?_
 focus ((refine B4 (BP rfl (cmpI_spec _ _) rfl rfl rdZ rfl rfl ?_); rintro _ rfl))
 focus ((refine B4 (BP rfl (cmpI_spec _ _) rfl rfl rdZ rfl rfl ?_); rintro _ rfl))
 refine B5 ?_; rintro _ _ ⟨b,rfl,rfl⟩
 revert b; intro bo
 refine B4 (BP rfl (or_spec (sng bo _) _ [cmpI x.c y.c,cmpI x.a y.a] (slE_sng Eng.encI_len) (by simp)) rfl rfl rdZ rfl rfl ?_)
 rintro _ rfl;refine Acr ?_
 skip
 exact A3 ⟨rfl,rfl⟩
theorem tlCmpB2_spec (x y:Bk):Ans Tryz.prog (fv 139) [.agg #[int x.c,int x.a,int x.b,int x.k],.agg #[int y.c,int y.a,int y.b,int y.k]] [] (fun r=>r=int (cmpBk x y)):=by
 refine spec_in (cap:=[]) Tryz.func139 rfl rfl Tryz.ntmps139 rfl envZ (fun N β=>?_)
 refine Aa ?_;refine BU ?_; rintro _ _ ⟨b,rfl,rfl⟩;refine BU ?_; rintro _ _ ⟨b,rfl,rfl⟩;refine Aaj ?_
 refine BD (.q 0 (.q 1 (.q 2 (.q 3 (.q 5 (.q 6 (.q 7 (.q 8 (.l 4 .e (.l 9 .e (.l 10 .e (.l 11 .e (.q 12 .nil))))))))))))) [] rfl (by kernel_rfl) selZ ?_
 refine Adp ?_
 focus ((refine B4 (BP rfl (cmpI_spec _ _) rfl rfl rdZ rfl rfl ?_); rintro _ rfl))
 focus ((refine B4 (BP rfl (cmpI_spec _ _) rfl rfl rdZ rfl rfl ?_); rintro _ rfl))
 refine B5 ?_; rintro _ _ ⟨b,rfl,rfl⟩
 revert b; intro bo
 refine B4 (BP rfl (or_spec (sng bo _) _ [cmpI x.c y.c,cmpI x.a y.a] (slE_sng Eng.encI_len) (by simp)) rfl rfl rdZ rfl rfl ?_)
 rintro _ rfl;refine Acr ?_
 skip
 exact A3 ⟨rfl,rfl⟩
theorem tlCmpH_spec (x y:Hd):Ans Tryz.prog (fv 141) [.agg #[int x.n,int x.a,int x.b,int x.s,int x.k],.agg #[int y.n,int y.a,int y.b,int y.s,int y.k]] [] (fun r=>r=int (cmpHd x y)):=by
 refine spec_in (cap:=[]) Tryz.func141 rfl rfl Tryz.ntmps141 rfl envZ (fun N β=>?_)
 refine Aa ?_;refine BU ?_; rintro _ _ ⟨b,rfl,rfl⟩;refine BU ?_; rintro _ _ ⟨b,rfl,rfl⟩;refine Aaj ?_
 refine BD (.q 0 (.q 1 (.q 2 (.q 3 (.q 5 (.q 6 (.q 7 (.q 8 (.q 10 (.q 11 (.q 12 (.q 13 (.q 15 (.q 16 (.q 17 (.q 18 (.q 20 (.q 21 (.q 22 (.q 23 (.l 4 .e (.l 9 .e (.l 14 .e (.l 19 .e (.l 24 .e (.l 25 .e (.l 26 .e (.q 27 .nil)))))))))))))))))))))))))))) [] rfl (by kernel_rfl) selZ ?_
 refine Adp ?_;refine Adp ?_;refine Abf ?_
 focus ((refine B4 (BP rfl (cmpI_spec _ _) rfl rfl rdZ rfl rfl ?_); rintro _ rfl))
 focus ((refine B4 (BP rfl (cmpI_spec _ _) rfl rfl rdZ rfl rfl ?_); rintro _ rfl))
 focus ((refine B4 (BP rfl (cmpI_spec _ _) rfl rfl rdZ rfl rfl ?_); rintro _ rfl))
 focus ((refine B4 (BP rfl (cmpI_spec _ _) rfl rfl rdZ rfl rfl ?_); rintro _ rfl))
 focus ((refine B4 (BP rfl (cmpI_spec _ _) rfl rfl rdZ rfl rfl ?_); rintro _ rfl))
 refine B5 ?_; rintro _ _ ⟨b,rfl,rfl⟩
 revert b; intro bo
 refine B4 (BP rfl (or_spec (sng bo _) _ [cmpI x.n y.n,cmpI x.a y.a,cmpI x.b y.b,cmpI x.k y.k,cmpI x.s y.s] (slE_sng Eng.encI_len) (by simp)) rfl rfl rdZ rfl rfl ?_)
 rintro _ rfl;refine Acr ?_
 skip
 exact A3 ⟨rfl,rfl⟩
theorem tlBks_spec {lam:PH} {pv:Option Addr} {cv:Nat} {l:List Hp} (hv:SlE encHp 4 lam (.slice pv l.length cv) l) (hl:l.length≤1000) (k:Int) :
  Makes Tryz.prog (fv 69) [.slice pv l.length cv,int k] [lam] (fun r χ=>∃ bs:List Bk,bs.Perm (l.map (bkOf k))∧OwnS 158 4 r bs.length (bs.flatMap encB) χ):=by
 obtain ⟨_,_,e,hrv⟩:=SlE.val encHp_len hv
 simp only [Value.slice.injEq] at e
 obtain ⟨rfl,_,rfl⟩:=e
 refine spec_in (cap:=[]) Tryz.func69 rfl rfl Tryz.ntmps69 rfl envZ (fun N β=>?_)
 refine CC ?_;refine Aaq ?_;refine Adf ?_
 refine BF [1,8,9] (X:=Nat × (Value × PH)) (0,(.slice none 0 0,emp)) (fun z=>z.1≤l.length∧OwnS 158 4 z.2.1 ((l.take z.1).map (bkOf k)).length (((l.take z.1).map (bkOf k)).flatMap encB) z.2.2) (fun z=>[(10,int (z.1:Int)),(5,z.2.1)]) (fun z=>[z.2.2]) (fun z=>l.length-z.1) pickZ ⟨Nat.zero_le _,OwnS.nil _ _⟩ covZ selZ ?_
 rintro ⟨i,u,σ⟩ ⟨hi,hO⟩
 dsimp only at hi hO ⊢
 have hu:=oneO _ _ _ _ hO
 by_cases hlt:i<l.length
 ·have hx:=List.getElem?_eq_getElem hlt
  have hnx:(l.take (i+1)).map (bkOf k)=(l.take i).map (bkOf k) ++ [bkOf k l[i]]:=by rw [List.take_add_one,hx,List.map_append]; rfl
  have hlq:((l.take i).map (bkOf k)).length≤1000:=by rw [List.length_map,List.length_take]; omega
  obtain ⟨bl,ol,rfl,hrd⟩:=hrv i _ hx
  generalize l[i]=h at hx hnx hrd
  generalize (l.take i).map (bkOf k)=Q at hO hnx hlq
  obtain ⟨hc0,hb0,he0,ha0⟩:=h
  have hrd:RdN lam bl (ol+i*4) [int hc0,int hb0,int he0,int ha0]:=hrd
  refine Ab2 ?_;refine A4 ?_; rintro _ _ ⟨b,rfl,rfl⟩;refine AW ?_; rintro _ _ ⟨rfl,rfl⟩;refine AE ?_;refine AA ?_;refine Abu ?_;refine Aae ?_;refine AB ?_;refine B0 ?_;refine BQ ?_; rintro _ _ ⟨b,rfl,rfl⟩
  revert b; intro bn
  revert b; intro b7
  refine AQ (ρ:=sng b7 _) takeZ ?_
  have bx178_3:=rdB b7 127 [int hc0,int hb0,int he0,int ha0]
  have z0:=rdC bx178_3 0
  have z1:=rdC bx178_3 1
  have z2:=rdC bx178_3 2
  skip
  refine BH (CG (by_:=32) (s:=4) (news:=[int hc0,int hb0,int he0,int k]) rfl rfl rfl rfl rfl rfl rfl hO takeZ (cells_own memZ) rfl oneZ (by omega) (by simp only [maxLen]; omega) (by omega)) rfl rfl rfl ?_
  rintro u1 _ ⟨σ1,hO1,rfl⟩;refine Aaa ?_;refine Aa3 ?_;refine BS ?_
  refine AY (i+1,(u1,σ1)) ⟨by dsimp only; omega,?_⟩ (by dsimp only; omega) covZ selZ
  dsimp only
  rw [hnx,List.length_append,List.flatMap_append];exact hO1
 have hke:i=l.length:=by omega
 subst hke;rw [List.take_length] at hO;refine Abl ?_;refine Aab ?_
 refine BA (sortStB_spec cmp_bk (fv 136) tlCmpB1_spec _ _ _ hO (by rw [List.length_map]; omega)) rfl rfl takesZ rdZ rfl rfl ?_
 rintro _ _ ⟨rfl,bs,σ',hpb,hsb,hO2,rfl⟩;refine AE ?_;refine Aa9 ?_;exact AT (res1 rfl rfl) rsubZ selZ ⟨σ',⟨bs,hpb,hO2⟩,rfl⟩
section
variable {ρ τ:PH} {pq pc:Option Addr} {kq kc:Nat} {qs:List Int} {cs:List Ct} {q:Rq}
theorem tlLeave_spec (hq:IntsAt ρ (.slice pq qs.length kq) qs) (hc:CtAt τ (.slice pc cs.length kc) cs) (hcap:cs.length≤kc) (lq:qs.length≤9223372036854775807) (lc:cs.length≤9223372036854775807) (hp:chkPl qs cs=0) {h:Hp} {k:Nat} {c:Ct} (hi:cs[k]?=some c) (hk:h.c=k) (hb:0≤h.e∧h.e≤1099511627776) :
  Ans Tryz.prog (fv 138) [.agg #[.slice pq qs.length kq,.slice pc cs.length kc],.agg #[int q.src,int q.dst,int q.size,int q.rdy,int q.dln,int q.pri,.bool q.cus],.agg #[int h.c,int h.b,int h.e,int h.a]] [τ] (fun r=>r=int (leaveC cs q h)):=by
 have hck:=(chkPl_ct hp).2 c (List.mem_of_getElem? hi)
 have hg:=chkCt_g hck.1
 have hil:=(List.getElem?_eq_some_iff.1 hi).1
 unfold leaveC;rw [hk,ctAt_of hi]
 obtain ⟨hc0,hb0,he0,ha0⟩:=h
 dsimp only at hk hb ⊢
 subst hk
 obtain ⟨_,_,e,hrc⟩:=hc.val encC_len
 simp only [Value.slice.injEq] at e
 obtain ⟨rfl,_,rfl⟩:=e
 obtain ⟨bq,oq,rfl,hrd⟩:=ctRow hrc hi
 have q5:rdc τ bq (oq+k*7+5)=some (int c.g):=hrd.get (j:=5) rfl
 obtain ⟨qsrc,qdst,qsz,qrdy,qdln,qpri,qcus⟩:=q
 dsimp only
 have hgen:∀ z,qcus=z→Ans Tryz.prog (fv 138) [.agg #[.slice pq qs.length kq,.slice (some ⟨bq,oq,none⟩) cs.length kc],.agg #[int qsrc,int qdst,int qsz,int qrdy,int qdln,int qpri,.bool z],.agg #[int (k:Int),int hb0,int he0,int ha0]] [τ] (fun r=>r=int (if z then he0+2*c.g else he0)):=by
  intro z _
  refine spec_in (cap:=[]) Tryz.func138 rfl rfl Tryz.ntmps138 rfl envZ (fun N β=>?_)
  refine Aa ?_;refine BH (BI rfl) rfl rfl rfl ?_;rintro _ _ ⟨b3,rfl,rfl⟩;refine BH (BI rfl) rfl rfl rfl ?_;rintro _ _ ⟨b4,rfl,rfl⟩;refine BH (BI rfl) rfl rfl rfl ?_;rintro _ _ ⟨b5,rfl,rfl⟩;refine AQ (ρ:=sng b3 _) takeZ ?_;refine AQ (ρ:=sng b4 _) takeZ ?_;refine AQ (ρ:=sng b5 _) takeZ ?_
  have bx251_3:=rdB b3 25 [.slice pq qs.length kq,.slice (some ⟨bq,oq,none⟩) cs.length kc]
  have cp1:=rdC bx251_3 1
  have bx252_3:=rdB b4 28 [int qsrc,int qdst,int qsz,int qrdy,int qdln,int qpri,.bool z]
  have cr6:=rdC bx252_3 6
  have bx253_3:=rdB b5 127 [int (k:Int),int hb0,int he0,int ha0]
  have ch0:=rdC bx253_3 0
  have ch2:=rdC bx253_3 2
  cases z with
  | true =>
   refine Aaj ?_;refine Aan ?_;refine Aah ?_;refine AC ?_
   refine BD P0Z [] rfl (by kernel_rfl) selZ ?_
   refine Abf ?_;refine Aak ?_;refine BB ?_;refine Abr ?_;refine EX ?_;refine C1 ?_;refine Acr ?_
   skip
   exact A3 ⟨rfl,rfl⟩
  | false =>
   refine Aaj ?_;refine Aan ?_;refine Aai ?_;refine Aan ?_;refine Aaa ?_;exact A3 ⟨rfl,rfl⟩
 exact hgen _ rfl
theorem tlAdd_spec (bF bO bN bQ bK:Nat) (f n k to:Int) (hft:f<to) (v:Value) (σ:PH) (D:List Hd) (hO:OwnS 246 5 v D.length (D.flatMap encH) σ) (hD:D.length≤100000) :
  Eng.Spec Tryz.prog (.func (.func 137) #[] #[.pointer (some ⟨bF,0,none⟩),.pointer (some ⟨bO,0,none⟩),.pointer (some ⟨bN,0,none⟩),.pointer (some ⟨bQ,0,none⟩),.pointer (some ⟨bK,0,none⟩)]) [int to] [sng bF (.cells #[int f] 3 (0,0)),sng bN (.cells #[int n] 3 (0,0)),sng bQ (.cells #[int q.src,int q.dst,int q.size,int q.rdy,int q.dln,int q.pri,.bool q.cus] 28 (0,0)),sng bK (.cells #[int k] 3 (0,0))] [sng bO (.cells #[v] 40 (0,0)),σ]
   (fun r H'=>r=.tuple #[]∧∃ v' σ',OwnS 246 5 v' (D ++ [(⟨n,f,to,q.size,k⟩:Hd)]).length ((D ++ [(⟨n,f,to,q.size,k⟩:Hd)]).flatMap encH) σ'∧H'=[sng bO (.cells #[v'] 40 (0,0)),σ']):=by
 have hu:=oneO _ _ _ _ hO
 have bx306_3:=rdB bF 3 [int f]
 have cF:=rdC bx306_3 0
 have bx307_3:=rdB bN 3 [int n]
 have cN:=rdC bx307_3 0
 have bx308_3:=rdB bK 3 [int k]
 have cK:=rdC bx308_3 0
 have bx309_3:=rdB bQ 28 [int q.src,int q.dst,int q.size,int q.rdy,int q.dln,int q.pri,.bool q.cus]
 have cq2:=rdC bx309_3 2
 refine spec_in (cap:=[.pointer (some ⟨bF,0,none⟩),.pointer (some ⟨bO,0,none⟩),.pointer (some ⟨bN,0,none⟩),.pointer (some ⟨bQ,0,none⟩),.pointer (some ⟨bK,0,none⟩)]) Tryz.func137 rfl rfl Tryz.ntmps137 rfl envZ (fun N β=>?_)
 refine Aa8 ?_;refine AB ?_;refine Abp ?_;refine AA ?_;refine AF ?_;refine AF ?_;refine AF ?_;refine Aay ?_;refine AF ?_;refine B0 ?_;refine BQ ?_; rintro _ _ ⟨b,rfl,rfl⟩
 revert b; intro bn
 refine BH (CG (by_:=40) (s:=5) (news:=[int n,int f,int to,int q.size,int k]) rfl rfl rfl rfl rfl rfl rfl hO takeZ (cells_own memZ) rfl oneZ (by omega) (by simp only [maxLen]; omega) (by omega)) rfl rfl rfl ?_
 rintro u1 _ ⟨σ1,hO1,rfl⟩
 have hu1:=oneO _ _ _ _ hO1
 refine BM ?_; rintro _ _ ⟨rfl,rfl⟩;refine AE ?_;refine A9 (res0 rfl) rsubZ selZ ⟨rfl,u1,σ1,?_,rfl⟩;rw [List.length_append,List.flatMap_append];exact hO1
end
end Go.Proofs.YtglifndogffmkaaGreat
namespace Go.Proofs.YtglifndogffmkaaGreat
open Go.Eng Go.Step
set_option maxRecDepth 100000
set_option maxHeartbeats 64000000
theorem ones_B:∀ (l:List Bk),∀ u∈l.flatMap encB,u.oneCell'=true:=fun l u hu=>by
 obtain ⟨x,_,hx⟩:=List.mem_flatMap.1 hu
 simp only [encB,List.mem_cons,List.not_mem_nil,or_false] at hx
 rcases hx with rfl|rfl|rfl|rfl <;> rfl
section
variable {ρ τ:PH} {pq pc:Option Addr} {kq kc:Nat} {qs:List Int} {cs:List Ct} {q:Rq}
theorem tlHolds_spec (hq:IntsAt ρ (.slice pq qs.length kq) qs) (hc:CtAt τ (.slice pc cs.length kc) cs) (hcap:cs.length≤kc) (lq:qs.length≤9223372036854775807) (lc:cs.length≤9223372036854775807) (hp:chkPl qs cs=0) (hs:1≤q.size∧q.size≤65536) (hr0:0≤q.rdy) {lam:PH} {pv:Option Addr} {cv:Nat} {l:List Hp} (hv:SlE encHp 4 lam (.slice pv l.length cv) l) (hl:l.length≤1000) (k u:Int) (hch:Chain cs q q.src q.rdy l) :
  Makes Tryz.prog (fv 70) [.agg #[.slice pq qs.length kq,.slice pc cs.length kc],.agg #[int q.src,int q.dst,int q.size,int q.rdy,int q.dln,int q.pri,.bool q.cus],.slice pv l.length cv,int k,int u] [τ,lam] (fun r χ=>OwnS 246 5 r (holdsW cs q k q.src q.rdy l).length ((holdsW cs q k q.src q.rdy l).flatMap encH) χ):=by
 have hlv:=fun {h:Hp} {k:Nat} {c:Ct} (hi:cs[k]?=some c) (hk:h.c=k) hb=>tlLeave_spec (ρ:=ρ) (q:=q) hq hc hcap lq lc hp hi hk hb
 have hcp:=hp
 obtain ⟨_,_,e,hrv⟩:=SlE.val encHp_len hv
 simp only [Value.slice.injEq] at e
 obtain ⟨rfl,_,rfl⟩:=e
 obtain ⟨_,_,e,hrc⟩:=hc.val encC_len
 simp only [Value.slice.injEq] at e
 obtain ⟨rfl,_,rfl⟩:=e
 refine spec_in (cap:=[]) Tryz.func70 rfl rfl Tryz.ntmps70 rfl envZ (fun N β=>?_)
 refine Aa ?_;refine BH (BI rfl) rfl rfl rfl ?_;rintro _ _ ⟨b5,rfl,rfl⟩;refine BH (BI rfl) rfl rfl rfl ?_;rintro _ _ ⟨b6,rfl,rfl⟩;refine BH (DP rfl rfl) rfl rfl rfl ?_;rintro _ _ ⟨b8,rfl,rfl⟩;refine AQ (ρ:=sng b5 _) takeZ ?_;refine AQ (ρ:=sng b6 _) takeZ ?_;refine AQ (ρ:=sng b8 _) takeZ ?_;refine CC ?_
 have cp:=rdB b5 25 [.slice pq qs.length kq,.slice pc cs.length kc]
 have cp1:=rdC cp 1
 have cr:=rdB b6 28 [int q.src,int q.dst,int q.size,int q.rdy,int q.dln,int q.pri,.bool q.cus]
 have cr0:=rdC cr 0
 have cr1:=rdC cr 1
 have cr3:=rdC cr 3
 refine Adm ?_;refine CB ?_; rintro _ _ ⟨b,rfl,rfl⟩;refine Aam ?_
 revert b; intro b11
 refine C9 (X:=Nat × Nat) [2,4,5,6,8,11] (fun _=>True) (fun x=>[(12,.pointer (some ⟨x.1,0,none⟩)),(13,.pointer (some ⟨x.2,0,none⟩))]) (fun x=>[sng x.1 (.cells #[int q.src] 3 (0,0)),sng x.2 (.cells #[int q.rdy] 3 (0,0)),sng b11 (.cells #[.slice none 0 0] 40 (0,0)),emp]) pickZ ?_ ?_
 ·refine BD (.q 0 (.q 1 (.p 2 (.p 3 (.l2 4 .e (.l 5 .e (.l 6 .b (.l 7 .b .nil))) 5 .e (.l 4 .e (.l 6 .b (.l 7 .b .nil)))))))) [] rfl (by kernel_rfl) selZ ?_
  repeat' (first
   | (refine AP ?_)
   | (refine AS ?_)
   | (refine EQ ?_)
   | (refine EB ?_)
   | (refine BE ?_)
   | (refine EE ?_ ?_)
   | (refine FF ?_; rintro _ _ ⟨b,rfl,rfl⟩)
   | (refine CN ?_; rintro _ _ ⟨rfl,rfl⟩)
   | (refine FE ?_; rintro _ _ ⟨b,rfl,rfl⟩)
   | fail)
  all_goals exact B8 (_,_) trivial covZ selZ
 rintro ⟨bN,bF⟩ _
 dsimp only
 refine Aa ?_;refine B3 ?_;refine Aa4 ?_;refine Abk ?_
 refine BF [4,5,6,11,12,13,14,22,23] (X:=(Nat × (Int × (Int × Int))) × (List Hd × (Value × PH))) ((0,(q.src,(q.rdy,q.rdy))),([],(.slice none 0 0,emp))) (fun z=>z.1.1≤l.length∧Chain cs q z.1.2.1 z.1.2.2.2 (l.drop z.1.1)∧z.1.2.2.1≤z.1.2.2.2∧holdsW cs q k q.src q.rdy l=z.2.1 ++ holdsW cs q k z.1.2.1 z.1.2.2.1 (l.drop z.1.1)∧z.2.1.length=z.1.1∧OwnS 246 5 z.2.2.1 z.2.1.length (z.2.1.flatMap encH) z.2.2.2) (fun z=>[(24,int (z.1.1:Int))]) (fun z=>[sng bN (.cells #[int z.1.2.1] 3 (0,0)),sng bF (.cells #[int z.1.2.2.1] 3 (0,0)),sng b11 (.cells #[z.2.2.1] 40 (0,0)),z.2.2.2]) (fun z=>l.length-z.1.1) pickZ ⟨Nat.zero_le _,hch,Int.le_refl _,rfl,rfl,OwnS.nil _ _⟩ covZ selZ ?_
 rintro ⟨⟨i,⟨n1,⟨f1,t1⟩⟩⟩,⟨D,⟨v,σ⟩⟩⟩ ⟨hi,hcn,hft,hd,hDl,hO⟩
 dsimp only at hi hcn hft hd hDl hO ⊢
 by_cases hlt:i<l.length
 ·have hdk:l.drop i=l[i]::l.drop (i+1):=List.drop_eq_getElem_cons hlt
  rw [hdk] at hd hcn
  have hx:=List.getElem?_eq_getElem hlt
  obtain ⟨bl,ol,rfl,hrd⟩:=hrv i _ hx
  generalize l[i]=h at hd hcn hx hrd
  obtain ⟨⟨kc1,c,hh⟩,hcn⟩:=hcn
  have hct:=hh.1
  have hcc:(ctAt cs h.c).t=c.t:=by rw [hh.2.1,ctAt_of hct]
  rw [hcc] at hcn
  have hil:=(List.getElem?_eq_some_iff.1 hct).1
  have hck:=((Go.Step.chkPl_ct hcp) (List.mem_of_getElem? hct)).1
  have hg:=chkCt_g hck
  have hdp:=durC_pos hck hs
  obtain ⟨_,g2,_,_,g5,g6,g7,g8,_⟩:=id hh
  have hle:=hlv hct g2 ⟨by omega,by omega⟩
  have hlw:h.e≤leaveC cs q h:=by unfold leaveC; rw [g2,ctAt_of hct]; split <;> omega
  obtain ⟨bq,oq,rfl,hrq⟩:=ctRow hrc hct
  have q1:rdc τ bq (oq+kc1*7+1)=some (int c.t):=hrq.get (j:=1) rfl
  have hd2:holdsW cs q k q.src q.rdy l=(D ++ [(⟨n1,f1,leaveC cs q h,q.size,k⟩:Hd)]) ++ holdsW cs q k c.t h.b (l.drop (i+1)):=by
   rw [hd]; simp only [holdsW,hcc,List.append_assoc,List.cons_append,List.nil_append]
  have hadd:=tlAdd_spec (q:=q) bF b11 bN b6 b8 f1 n1 k (leaveC cs q h) (by omega) v σ D hO (by omega)
  have hgb:h.b≤h.a:=by have:=hh.2.2.2.2.2.2.2.2; omega
  generalize leaveC cs q h=lv at hle hd2 hadd hlw
  obtain ⟨hc0,hb0,he0,ha0⟩:=h
  dsimp only at g2 hcn hd2 hgb
  subst g2
  have hrd:RdN lam bl (ol+i*4) [int (kc1:Int),int hb0,int he0,int ha0]:=hrd
  refine Ab2 ?_;refine A4 ?_; rintro _ _ ⟨b,rfl,rfl⟩;refine AW ?_; rintro _ _ ⟨rfl,rfl⟩;refine AE ?_;refine Aab ?_;refine AK ?_;refine AK ?_;refine AK ?_
  revert b; intro b16
  refine AQ (ρ:=sng b16 _) takeZ ?_
  have mw:=rdB b16 127 [int (kc1:Int),int hb0,int he0,int ha0]
  have m0:=rdC mw 0
  have m1:=rdC mw 1
  skip
  refine AZ hle rfl rfl rdZ rfl rfl ?_;rintro _ rfl;refine BA hadd rfl rfl takesZ rdZ rfl rfl ?_;rintro _ _ ⟨rfl,v2,σ2,hO2,rfl⟩;simp only [List.cons_append,List.nil_append];refine AE ?_
  refine BD (.q 0 (.q 1 (.q 2 (.q 3 (.q 4 (.q 5 (.q 6 (.p 7 (.p 8 (.l 9 .b (.l 10 .b .nil))))))))))) [] rfl (by kernel_rfl) selZ ?_
  refine Abf ?_;refine BB ?_;refine Abr ?_;refine EB ?_;refine EQ ?_;refine CN ?_; rintro _ _ ⟨rfl,rfl⟩;refine CN ?_; rintro _ _ ⟨rfl,rfl⟩;refine BE ?_;refine Aa3 ?_;refine BS ?_
  exact AY ((i+1,(c.t,(hb0,ha0))),(D ++ [(⟨n1,f1,lv,q.size,k⟩:Hd)],(v2,σ2))) ⟨by dsimp only; omega,hcn,hgb,hd2,by dsimp only; rw [List.length_append,List.length_singleton]; omega,hO2⟩ (by dsimp only; omega) covZ selZ
 have hke:i=l.length:=by omega
 subst hke;rw [List.drop_length] at hcn hd
 have hnd:n1=q.dst:=hcn
 have hD2:holdsW cs q k q.src q.rdy l=D:=by rw [hd]; simp [holdsW]
 rw [hD2]
 have hu:=oneO _ _ _ _ hO
 refine Abl ?_;refine AC ?_;refine Aa8 ?_;refine Aae ?_;refine BO ?_;refine Aai ?_;refine Aa8 ?_;refine Aaa ?_;exact AT (res1 rfl rfl) rsubZ selZ ⟨σ,hO,rfl⟩
end
theorem tlSorted_spec (pq pc pb ph:Option Addr) (nq nc kq kc kb kh:Nat) (bs:List Bk) (hs:List Hd) (σ υ:PH) (hb:OwnS 158 4 (.slice pb bs.length kb) bs.length (bs.flatMap encB) σ) (hh:OwnS 246 5 (.slice ph hs.length kh) hs.length (hs.flatMap encH) υ) (lb:bs.length≤100000) (lh:hs.length≤100000) :
  Eng.Spec Tryz.prog (fv 71) [.agg #[.slice pq nq kq,.slice pc nc kc,.slice pb bs.length kb,.slice ph hs.length kh]] [] [σ,υ] (fun r H'=>r=.agg #[.slice pq nq kq,.slice pc nc kc,.slice pb bs.length kb,.slice ph hs.length kh]∧∃ bs' hs' σ' υ',bs'.Perm bs∧BkW bs'∧hs'.Perm hs∧SortH hs'∧OwnS 158 4 (.slice pb bs.length kb) bs'.length (bs'.flatMap encB) σ'∧OwnS 246 5 (.slice ph hs.length kh) hs'.length (hs'.flatMap encH) υ'∧H'=[σ',υ']):=by
 refine spec_in (cap:=[]) Tryz.func71 rfl rfl Tryz.ntmps71 rfl envZ (fun N β=>?_)
 refine Aa ?_;refine BH (BI rfl) rfl rfl rfl ?_;rintro _ _ ⟨b1,rfl,rfl⟩;refine BH (CH rfl) rfl rfl rfl ?_;rintro _ _ ⟨b2,rfl,rfl⟩;refine AQ (ρ:=sng b1 _) takeZ ?_
 have ct:=rdB b1 42 [.slice pq nq kq,.slice pc nc kc,.slice pb bs.length kb,.slice ph hs.length kh]
 have ct2:=rdC ct 2
 have ct3:=rdC ct 3
 refine Aca ?_
 refine BA (sortStB_spec cmp_bk (fv 139) tlCmpB2_spec _ _ _ hb (by omega)) rfl rfl takesZ rdZ rfl rfl ?_
 rintro _ _ ⟨rfl,bs',σ',hpb,hsb,hO1,rfl⟩;simp only [List.cons_append,List.nil_append];refine Aca ?_
 refine BA (sortStH_spec cmp_hd (fv 141) tlCmpH_spec _ _ _ hh (by omega)) rfl rfl takesZ rdZ rfl rfl ?_
 rintro _ _ ⟨rfl,hs',υ',hph,hsh,hO2,rfl⟩;simp only [List.cons_append,List.nil_append];refine AE ?_;refine Aas ?_;refine AW ?_; rintro _ _ ⟨rfl,rfl⟩;refine AE ?_;exact AT (resS1 (b1:=b2) (T:=42) (v1:=[.slice pq nq kq,.slice pc nc kc,.slice pb bs.length kb,.slice ph hs.length kh]) rfl rfl rfl rfl (cells_own memZ)) rsubZ selZ ⟨rfl,bs',hs',σ',υ',hpb,hsb,hph,hsh,hO1,hO2,rfl⟩
end Go.Proofs.YtglifndogffmkaaGreat
