/- Texts of this proof, one after the other; no conditions. -/
import Derived.Test.YtahbngakckbenaaGreatDoorRows
import Derived.Test.YtahbngakckbenaaGreatDoorTie
import Derived.Test.YtahbngakckbenaaGreatDoorCards
import Derived.LaidMore
import Derived.Lay
import Derived.SevenTiedAt
import Derived.Test.YtahbngakckbenaaGreatDoorWB9
import Derived.Test.YtahbngakckbenaaGreatDoorWB2
import Derived.Test.YtahbngakckbenaaGreatDoorWB13
import Derived.Test.YtahbngakckbenaaGreatDoorWB5
import Derived.Test.YtahbngakckbenaaGreatDoorWB4
set_option linter.all false
/- What is sent over a session is the data: the law. -/
namespace Go.Proofs.YtahbngakckbenaaGreatDoor
open Go.Eng Go.Step
set_option maxRecDepth 100000
set_option maxHeartbeats 64000000
theorem GI {C:Cx} {R H:List PH} {L:Env} {x y:Operand} {dst:Option Tmp} {ty:TypeId} {pos:String} {aft:Array Edge} {g:Option (Nat × Bool)} {xT yT:TypeId} {m n:Int} (h1:evalE L x=some (.int .i64 m)) (h2:evalE L y=some (.int .i64 n)):Quiet C R H L ⟨dst,.binOp .sub xT x y yT,ty,pos,aft,g⟩ (.int .i64 (IntKind.i64.wrap (m-n))):=
 DV (C:=C) (R:=R) (H:=H) (dst:=dst) (ty:=ty) (pos:=pos) (aft:=aft) (g:=g) (xT:=xT) (yT:=yT) (.inr (.inl ⟨rfl,rfl⟩)) h1 h2
structure Rc where
 i:Nat
 u:Value
 s:PH
theorem received_law {ρp ρd:PH} {vp vd:Value} (P:Par) (hPe:P.e=P.c.e) (bg tn:Int) (hp:IntsAt ρp vp P.picks) (hpk:∀ x∈P.picks,-9223372036854775808≤x∧x≤9223372036854775807) (hpl:P.picks.length≤9223372036854775807) (hq:SpAt ρd vd P.dark) (hql:P.dark.length≤9223372036854775807) (hbg:0≤bg∧bg≤255) (htn:0≤tn∧tn≤255) :
  Ans Tryz.prog (fv 3) [.agg #[int P.c.f,int P.c.t,int P.c.s,int P.c.e,int P.c.r,int P.c.g,int P.c.l],.int .u8 bg,str P.d,vp,int P.limit,vd,.int .u8 tn] [ρp,ρd] (fun r=>r=.bool true):=by
 obtain ⟨pp,cp,rfl,_⟩:=hp.val Eng.encI_len
 obtain ⟨pq,cq,rfl,_⟩:=hq.val encS_len
 have haw:Ans Tryz.prog (.func (.func 4) #[] #[]) [] [] (fun r=>r=.bool true):=awake_spec
 refine spec_in (cap:=[]) Tryz.func3 rfl rfl Tryz.ntmps3 rfl envZ (fun N β=>?_)
 refine Aa ?_;refine BK (BM rfl) rfl rfl rfl ?_;rintro _ _ ⟨b7,rfl,rfl⟩;refine AZ (ρ:=sng b7 _) takeZ ?_
 have cc:=rdB b7 23 [int P.c.f,int P.c.t,int P.c.s,int P.c.e,int P.c.r,int P.c.g,int P.c.l]
 have cc0:=rdC cc 0
 have cc1:=rdC cc 1
 have cc2:=rdC cc 2
 have cc3:=rdC cc 3
 have cc4:=rdC cc 4
 have cc5:=rdC cc 5
 have cc6:=rdC cc 6
 by_cases hd:P.d.length≤120
 rotate_left
 ·skip
  refine Aa7 ?_
  focus ((refine' BQ _ rfl rfl rfl _; rotate_left; (apply B4; exact rfl; exact rfl)))
  refine C9 ?_;refine Ab9 ?_;refine A4 ?_;refine Ab9 ?_;refine A4 ?_;refine Ab9 ?_;refine A4 ?_;refine Acn ?_;refine Abr ?_;refine Aa ?_;refine AW haw rfl rfl rdZ rfl rfl ?_;rintro _ rfl;refine Aaa ?_;exact BE ⟨rfl,rfl⟩
 by_cases hpi:P.picks.length≤30
 rotate_left
 ·skip
  refine Aa7 ?_
  focus ((refine' BQ _ rfl rfl rfl _; rotate_left; (apply B4; exact rfl; exact rfl)))
  refine BP ?_;refine Ac ?_;refine C9 ?_;refine AR ?_;refine Ab9 ?_;refine A4 ?_;refine Ab9 ?_;refine A4 ?_;refine Acn ?_;refine Abr ?_;refine Aa ?_;refine AW haw rfl rfl rdZ rfl rfl ?_;rintro _ rfl;refine Aaa ?_;exact BE ⟨rfl,rfl⟩
 by_cases hdi:P.dark.length≤6
 rotate_left
 ·skip
  refine Aa7 ?_
  focus ((refine' BQ _ rfl rfl rfl _; rotate_left; (apply B4; exact rfl; exact rfl)))
  refine BP ?_;refine Ac ?_;refine Acu ?_;refine Ac ?_;refine C9 ?_;refine AR ?_;refine Ab9 ?_;refine A4 ?_;refine Acn ?_;refine Abr ?_;refine Aa ?_;refine AW haw rfl rfl rdZ rfl rfl ?_;rintro _ rfl;refine Aaa ?_;exact BE ⟨rfl,rfl⟩
 by_cases hgi:P.c.g≤60
 rotate_left
 ·skip
  refine Aa7 ?_
  focus ((refine' BQ _ rfl rfl rfl _; rotate_left; (apply B4; exact rfl; exact rfl)))
  refine BP ?_;refine Ac ?_;refine Acu ?_;refine Ac ?_;refine Ac4 ?_;refine C9 ?_;refine AR ?_;refine Acn ?_;refine Abr ?_;refine Aa ?_;refine AW haw rfl rfl rdZ rfl rfl ?_;rintro _ rfl;refine Aaa ?_;exact BE ⟨rfl,rfl⟩
 by_cases hwi:IntKind.i64.wrap (P.c.e-P.c.s)≤3000
 rotate_left
 ·skip
  refine Aa7 ?_
  focus ((refine' BQ _ rfl rfl rfl _; rotate_left; (apply B4; exact rfl; exact rfl)))
  refine BP ?_;refine Ac ?_;refine Acu ?_;refine Ac ?_;refine Ac4 ?_;refine BP ?_;refine Aci ?_
  focus ((refine BQ (GI rfl rfl) rfl rfl rfl ?_))
  refine C9 ?_;refine AR ?_;refine Acr ?_;refine AW haw rfl rfl rdZ rfl rfl ?_;rintro _ rfl;refine Aaa ?_;exact BE ⟨rfl,rfl⟩
 have hrun:=fun t0=>trRunO_spec (P:=P) (t0:=t0) hp hpk (by omega) hq (by omega) (by omega)
 have hfrm:=fun t0=>trFrames_spec (P:=P) (t0:=t0) hp hpk (by omega) hq (by omega) (by omega)
 rw [hPe] at hrun hfrm;refine Aa7 ?_
 focus ((refine' BQ _ rfl rfl rfl _; rotate_left; (apply B4; exact rfl; exact rfl)))
 refine BP ?_;refine Ac ?_;refine Acu ?_;refine Ac ?_;refine Ac4 ?_;refine BP ?_;refine Aci ?_
 focus ((refine BQ (GI rfl rfl) rfl rfl rfl ?_))
 refine BP ?_;refine Aa3 ?_;refine Aao ?_;refine AB ?_;refine EB ?_
 focus ((refine BQ (q_addW rfl rfl) rfl rfl rfl ?_))
 refine Acx ?_;refine Aap ?_;refine Aak ?_;refine Aak ?_
 generalize IntKind.i64.wrap (P.c.s+bg)=t0
 have hrun:=hrun t0
 have hfrm:=hfrm t0
 refine BG hrun rfl rfl Takes.nil rdZ rfl rfl ?_;rintro _ _ ⟨rfl,⟨hE,rfl⟩|⟨hE,hP,hok,s1,u1,r1,i1,n1,rfl⟩⟩
 ·refine AB ?_
  refine Aaq ?_;refine A6 ?_; rintro _ _ ⟨b,rfl,rfl⟩;refine AX ?_; rintro _ _ ⟨rfl,rfl⟩;refine Acx ?_;refine Aap ?_;refine Aak ?_;refine Aak ?_;refine BG hfrm rfl rfl Takes.nil rdZ rfl rfl ?_;rintro _ _ (⟨_,rfl,rfl⟩|⟨hE2,_⟩)
  rotate_left
  ·exact absurd hE2 hE
  generalize startE P t0=er at hE
  refine Aaw ?_;refine AI ?_;refine AC ?_;refine Aai ?_;refine Aah ?_;refine DB ?_;refine Aal ?_;refine Aar ?_;refine CM ?_;refine Ac ?_;refine Ac0 ?_;refine CA ?_;refine CM ?_;refine A4 ?_;refine AB ?_;refine AW haw rfl rfl rdZ rfl rfl ?_;rintro _ rfl;refine Abi ?_;exact BE ⟨rfl,rfl⟩
 refine Aaw ?_;refine A6 ?_; rintro _ _ ⟨b,rfl,rfl⟩;refine AX ?_; rintro _ _ ⟨rfl,rfl⟩;refine Acx ?_;refine Aap ?_;refine Aak ?_;refine Aak ?_
 revert b; intro b16
 refine BG hfrm rfl rfl Takes.nil rdZ rfl rfl ?_;rintro _ _ (⟨hE2,_⟩|⟨_,_,_,s2,⟨F,G,O,p0,p1,p2,p3,p4,p5,p6,c0,c1,c2,c3,c4,c5,c6⟩,⟨σa,σb,σc,σd,σe,σf⟩,u2,r2,i2,n2,hM,rfl,rfl⟩)
 ·exact absurd hE hE2
 obtain rfl:=Runs.det r1 r2
 obtain ⟨_,f1,f2,f3,f4,f5,f6,f7,f8⟩:=RI.fin hP i1 n1
 have hol:O.length=s1.out1.length:=by rw [← hM.om,List.length_map]
 have hMo0:=hM.o0
 have hMo1:=hM.o1
 have hMom:=hM.om
 have hMo2:=hM.o2
 dsimp only at hMo0 hMo1 hMom hMo2 ⊢
 clear hM r1 r2 i1 i2 n1 n2 hrun hfrm;refine Aaw ?_;refine AI ?_;refine AC ?_;refine Aai ?_
 repeat refine AD ?_
 refine Acf ?_;refine BJ ?_;refine AE ?_
 repeat refine AD ?_
 refine Aaf ?_
 repeat refine AD ?_
 refine C3 (X:=Unit) [2,6,7,14,15,16,18,19] (fun _=>True) (fun _=>[(133,.bool false)]) (fun _=>[σc,σd,σf,sng b16 (.cells #[.bool s1.rcvd,int s1.arr,.bool s1.kn,int s1.knAt,int s1.snd.busy,int s1.ent,int (s1.dat.lost+s1.rep.lost)] 28 (0,0))]) pickZ ?_ ?_
 ·cases hkn:s1.kn with
  | false =>
   refine Acf ?_;refine BJ ?_;refine Ac ?_;refine Ac0 ?_;refine CA ?_;refine Aae ?_;refine BJ ?_;refine Abg ?_;refine Ab9 ?_;refine AR ?_;refine Aci ?_;refine Acu ?_;refine AE ?_;exact BB () trivial covZ selZ
  | true =>
   have hrc:=f4 hkn
   rw [hrc];refine Acf ?_;refine BJ ?_;refine Ac ?_;refine Ac0 ?_;refine CA ?_;refine Aae ?_;refine BJ ?_;refine Abg ?_;refine Aap ?_;refine BC ?_;refine A4 ?_;refine Aci ?_;refine Acu ?_;refine AE ?_;exact BB () trivial covZ selZ
 rintro _ _;refine AZ (ρ:=σc) takeZ ?_;refine CB ?_
 obtain ⟨_,_,e0,hR0⟩:=SlE.val (encO_len 0 P.d) hMo0.at
 simp only [Value.slice.injEq] at e0
 obtain ⟨rfl,_,rfl⟩:=e0
 refine Aaf ?_;refine Ab0 ?_;refine Abw ?_
 refine BX [2,6,7,14,15,16,18,19,134,135] (X:=Rc) ⟨0,.slice none 0 0,emp⟩ (fun z=>z.i≤s1.out0.length∧OwnS 37 8 z.u z.i ((s1.out0.take z.i).flatMap (fun x=>encG 0 P.d x.2)) z.s) (fun z=>[(136,int (z.i:Int)),(21,z.u)]) (fun z=>[sng b16 (.cells #[.bool s1.rcvd,int s1.arr,.bool s1.kn,int s1.knAt,int s1.snd.busy,int s1.ent,int (s1.dat.lost+s1.rep.lost)] 28 (0,0)),σd,σf,z.s]) (fun z=>s1.out0.length-z.i) pickZ ⟨Nat.zero_le _,OwnS.nil _ _⟩ covZ selZ ?_
 rintro ⟨i,u,σA⟩ ⟨hi,hA⟩
 dsimp only at hi hA ⊢
 obtain ⟨pu,cu,rfl,hcu⟩:=hA.formC
 by_cases hlt:i<s1.out0.length
 ·have hx:=List.getElem?_eq_getElem hlt
  have hgx:=f1 _ (List.getElem_mem hlt)
  generalize s1.out0[i]=x1 at hx hgx
  obtain ⟨t1,x⟩:=x1
  obtain ⟨b8,o8,rfl,hRd⟩:=hR0 i _ hx
  have hRd:RdN σc b8 (o8+i*9) [int t1,int 1,int 0,int x.sr,int (x.a:Int),int (P.d.length:Int),.bool (decide (1≤x.sr)),str (cutD P.d x.a x.b),.slice none 0 0]:=hRd
  obtain ⟨g1,g2,⟨y1,y2,y3,y4,y5⟩⟩:=hgx
  dsimp only at g1 g2 y1 y2 y3 y4 y5
  have hcl:=cutD_len (Nat.le_of_lt y1) y2
  have hlen:(x.a:Int)+((cutD P.d x.a x.b).length:Int)=(x.b:Int):=by rw [hcl]; omega
  have hcut:(!(((P.d.drop x.a).take (x.b-x.a)) == cutD P.d x.a x.b))=false:=by simp [cutD]
  have e1:(s1.out0.take (i+1)).flatMap (fun x=>encG 0 P.d x.2)=(s1.out0.take i).flatMap (fun x=>encG 0 P.d x.2) ++ [int 1,int 0,int x.sr,int (x.a:Int),int (P.d.length:Int),.bool (decide (1≤x.sr)),str (cutD P.d x.a x.b),.slice none 0 0]:=by
   rw [List.take_add_one,hx,List.flatMap_append]
   rfl
  have hfl:Flat [.agg #[int 1,int 0,int x.sr,int (x.a:Int),int (P.d.length:Int),.bool (decide (1≤x.sr)),str (cutD P.d x.a x.b),.slice none 0 0]] [int 1,int 0,int x.sr,int (x.a:Int),int (P.d.length:Int),.bool (decide (1≤x.sr)),str (cutD P.d x.a x.b),.slice none 0 0]:=Flat.agg (ws:=[int 1,int 0,int x.sr,int (x.a:Int),int (P.d.length:Int),.bool (decide (1≤x.sr)),str (cutD P.d x.a x.b),.slice none 0 0]) Flat.nil
  refine Ac8 ?_;refine A6 ?_; rintro _ _ ⟨b,rfl,rfl⟩;refine AX ?_; rintro _ _ ⟨rfl,rfl⟩;refine Ab3 ?_;refine AF ?_
  revert b; intro b23
  have cp:RdP (sng b23 (.cells #[int t1,int 1,int 0,int x.sr,int (x.a:Int),int (P.d.length:Int),.bool (decide (1≤x.sr)),str (cutD P.d x.a x.b),.slice none 0 0] 39 (0,0))) b23 1 [int 1,int 0,int x.sr,int (x.a:Int),int (P.d.length:Int),.bool (decide (1≤x.sr)),str (cutD P.d x.a x.b),.slice none 0 0]:=rdP_sng (xs:=[int t1,int 1,int 0,int x.sr,int (x.a:Int),int (P.d.length:Int),.bool (decide (1≤x.sr)),str (cutD P.d x.a x.b),.slice none 0 0]) rfl
  focus ((refine BQ (CH rfl rfl (cellsH cp.rd memZ) rfl) rfl rfl rfl ?_))
  refine A6 ?_; rintro _ _ ⟨b,rfl,rfl⟩;refine AX ?_; rintro _ _ ⟨rfl,rfl⟩;refine Aat ?_;refine AD ?_
  refine BD (.q 0 (.q 1 (.q 2 (.q 3 (.q 4 (.q 5 (.q 6 (.q 7 (.q 8 (.q 9 (.q 10 (.q 11 (.q 12 (.q 13 (.q 14 (.q 15 (.q 16 (.q 17 (.q 18 (.q 19 (.q 20 (.q 21 (.q 22 (.q 23 (.q 24 (.q 25 (.q 26 (.q 27 (.q 28 (.q 29 (.q 30 (.q 31 (.q 32 (.q 33 (.q 34 (.q 35 (.q 36 (.q 37 (.q 38 (.q 39 (.q 40 (.q 41 (.q 42 (.q 43 (.q 44 (.q 45 (.q 46 (.q 47 (.q 48 (.q 49 (.q 50 (.q 51 (.q 52 (.q 53 .nil)))))))))))))))))))))))))))))))))))))))))))))))))))))) [] rfl (by kernel_rfl) Sel.nil ?_
  refine Ac9 ?_;refine DA ?_;refine Abp ?_;refine AJ ?_;refine DZ ?_;refine BU ?_;refine Abp ?_;refine EI ?_;refine BU ?_;refine Abp ?_;refine AJ ?_
  focus ((refine' CF rfl _ rfl rfl rfl rfl _; rotate_left; (apply B4; exact rfl; exact rfl)))
  refine EI ?_;refine BU ?_;refine Abp ?_;refine DZ ?_;refine BU ?_;refine Abp ?_;refine Aaj ?_
  focus ((refine' CF rfl _ rfl rfl rfl rfl _; rotate_left; (apply B4; exact rfl; exact rfl)))
  refine EL ?_;refine AJ ?_
  focus ((rw [hlen]))
  focus ((refine' CF rfl _ rfl rfl rfl rfl _; rotate_left; (apply B4; exact rfl; exact rfl)))
  refine DA ?_;refine BU ?_;refine AJ ?_;refine Abp ?_;refine Ac9 ?_
  focus ((refine' CF rfl _ rfl rfl rfl rfl _; rotate_left; (apply B4; exact rfl; exact rfl)))
  refine EL ?_
  focus ((rw [hlen]))
  focus ((refine' CF rfl _ rfl rfl rfl rfl _; rotate_left; (apply EO; exact rfl; exact rfl; exact rfl; exact rfl; omega; omega)))
  refine Aaj ?_
  focus ((refine' CF rfl _ rfl rfl rfl rfl _; rotate_left; (apply GU; exact rfl; exact rfl)))
  refine BU ?_;refine A7 ?_
  focus ((rw [hcut]))
  refine Aaf ?_;refine Acf ?_;refine AV ?_;refine BK (B6 (cs:=[int 1,int 0,int x.sr,int (x.a:Int),int (P.d.length:Int),.bool (decide (1≤x.sr)),str (cutD P.d x.a x.b),.slice none 0 0]) rfl rfl rfl rfl rfl oneZ hfl rfl) rfl rfl rfl ?_;rintro _ _ ⟨bn,rfl,rfl⟩
  refine BK (CV (by_:=88) (s:=8) (news:=[int 1,int 0,int x.sr,int (x.a:Int),int (P.d.length:Int),.bool (decide (1≤x.sr)),str (cutD P.d x.a x.b),.slice none 0 0]) rfl rfl rfl rfl rfl rfl rfl hA takeZ (cells_own memZ) rfl oneZ (by omega) (by simp only [maxLen]; omega) (by omega)) rfl rfl rfl ?_
  rintro u1 _ ⟨σA2,hA2,rfl⟩;rw [← e1] at hA2;refine Aaa ?_;refine Abc ?_
  exact BH ⟨i+1,u1,σA2⟩ ⟨by dsimp only; omega,hA2⟩ (by dsimp only; omega) covZ selZ
 obtain rfl:i=s1.out0.length:=by omega
 rw [List.take_of_length_le (Nat.le_refl _)] at hA
 have hAe:s1.out0.flatMap (fun x=>encG 0 P.d x.2)=(s1.out0.map (·.2)).flatMap (encG 0 P.d):=by rw [List.flatMap_map]
 have hLn:(s1.out0.map (·.2)).length=s1.out0.length:=List.length_map _
 have hLok:∀ x∈s1.out0.map (·.2),okG P.d.length x:=fun x hx=>by
  obtain ⟨y,hy,rfl⟩:=List.mem_map.1 hx
  exact (f1 y hy).2.2
 have hLs:SlE (encG 0 P.d) 8 σA (.slice pu (s1.out0.map (·.2)).length cu) (s1.out0.map (·.2)):=by
  have h:=hA.at
  rw [hAe] at h;unfold SlE;rw [hLn];exact h
 rw [← hLn] at hcu f6 ⊢;clear hAe hA
 generalize s1.out0.map (·.2)=Ls at *
 by_cases h60:Ls.length≤60
 rotate_left
 ·skip
  refine Aby ?_;refine Aah ?_;refine BF ?_;refine C9 ?_;refine Acr ?_;refine AW haw rfl rfl rdZ rfl rfl ?_;rintro _ rfl;refine Aaa ?_;exact BE ⟨rfl,rfl⟩
 have f6:=f6 h60
 have hn1:=hP.n1
 have hn2:=hP.n2
 obtain ⟨k,hk,hkn⟩:∃ k:Nat,tn % ((Ls.length+1:Nat):Int)=(k:Int)∧k≤Ls.length:=by
  have q1:=Int.emod_nonneg tn (show ((Ls.length+1:Nat):Int)≠0 by omega)
  have q2:=Int.emod_lt_of_pos tn (show 0<((Ls.length+1:Nat):Int) by omega)
  exact ⟨(tn % ((Ls.length+1:Nat):Int)).toNat,by omega,by omega⟩
 have hLD:=slE_lo (encG_len 0 P.d) hLs hcu hkn rfl
 have hLT:=slE_hi (encG_len 0 P.d) hLs hcu hkn
 have hrl:(Ls.drop k ++ Ls.take k).length=Ls.length:=by rw [List.length_append,List.length_drop,List.length_take]; omega
 have hrok:∀ x∈Ls.drop k ++ Ls.take k,okG P.d.length x:=fun x hx=>by
  rcases List.mem_append.1 hx with hx|hx
  ·exact hLok x (List.mem_of_mem_drop hx)
  ·exact hLok x (List.mem_of_mem_take hx)
 have hwh:=hear_all (by omega) hrok (fun g hg=>rot_all (k:=k) (f6 g hg))
 have hco:=fun bb=>concatGd_spec (sng bb (.cells (elems encW [.slice (cutP pu cu k 8) (Ls.length-k) (cu-k),.slice (cutP pu cu 0 8) k cu]) 35 (0,0))) [σA] _ [.slice (cutP pu cu k 8) (Ls.length-k) (cu-k),.slice (cutP pu cu 0 8) k cu] [(Ls.drop k).map (fun x=>(P.d,x)),(Ls.take k).map (fun x=>(P.d,x))] (slE_sng (c:=2) encW_len) rfl (fun i w l hi hl=>by
   match i with
   | 0 =>
    simp only [List.getElem?_cons_zero,Option.some.injEq] at hi hl;subst hi hl
    exact ⟨σA,by simp,SlE.toGd hLD⟩
   | 1 =>
    simp only [List.getElem?_cons_succ,List.getElem?_cons_zero,Option.some.injEq] at hi hl;subst hi hl
    exact ⟨σA,by simp,SlE.toGd hLT⟩
   | i+2=>simp at hi) (by simp) (by simp [totL]; omega)
 have hfe:[(Ls.drop k).map (fun x=>(P.d,x)),(Ls.take k).map (fun x=>(P.d,x))].flatten=(Ls.drop k ++ Ls.take k).map (fun x=>(P.d,x)):=by simp
 rw [hfe] at hco
 have hhe:=fun (σ:PH) (v:Value) (hv:SlE (encG 0 P.d) 8 σ v (Ls.drop k ++ Ls.take k))=>trHeard_spec hv hrok hn1 hn2 (by omega)
 rw [hwh] at hhe;clear hwh hLD hLT;refine Aby ?_;refine Aah ?_;refine BF ?_;refine BP ?_;refine Aag ?_;refine Aab ?_;refine EB ?_;refine Ac0 ?_;refine BY ?_;refine zq_rem ?_;refine Aaa ?_;refine AD ?_;rw [hk]
 refine C3 (X:=Nat × Option Addr × Nat × PH) [2,14,16,19] (fun z=>SpAt z.2.2.2 (.slice z.2.1 [((0:Int),(P.d.length:Int))].length z.2.2.1) [((0:Int),(P.d.length:Int))]) (fun z=>[(26,.pointer (some ⟨z.1,0,none⟩)),(27,.bool true)]) (fun z=>[sng z.1 (.cells #[int 0,int (totR P.d [((0:Int),(P.d.length:Int))]),.slice z.2.1 [((0:Int),(P.d.length:Int))].length z.2.2.1,str (datR P.d [((0:Int),(P.d.length:Int))])] 41 (0,0)),z.2.2.2,sng b16 (.cells #[.bool s1.rcvd,int s1.arr,.bool s1.kn,int s1.knAt,int s1.snd.busy,int s1.ent,int (s1.dat.lost+s1.rep.lost)] 28 (0,0)),σd,σf]) pickZ ?_ ?_
 ·refine BD (.q 0 (.q 1 (.q 2 (.q 3 (.q 4 (.q 5 (.l2 6 .e (.l2 7 .e (.l2 8 .e (.q 9 (.q 10 (.p 11 (.l 12 .e (.l 13 .b (.q 14 .nil)))))) 12 .e (.l 8 .e (.q 9 (.q 10 (.p 11 (.l 13 .b (.q 14 .nil))))))) 12 .e (.l 7 .e (.l 8 .e (.q 9 (.q 10 (.p 11 (.l 13 .b (.q 14 .nil)))))))) 12 .e (.l 6 .e (.l 7 .e (.l 8 .e (.q 9 (.q 10 (.p 11 (.l 13 .b (.q 14 .nil))))))))))))))) [] rfl (by kernel_rfl) Sel.nil ?_
  repeat' (first
   | (refine AJ ?_)
   | (refine F0 ?_)
   | (refine C7 ?_)
   | (refine CZ ?_ ?_)
   | (refine EE ?_; rintro _ _ ⟨b,rfl,rfl⟩)
   | (refine BZ ?_; rintro _ _ ⟨b,rfl,rfl⟩)
   | (refine ED ?_; rintro _ _ ⟨b,rfl,rfl⟩)
   | fail)
  ·revert b; intro bb
   refine BO rfl (hco bb) rfl rfl rdZ rfl rfl ?_;rintro r1 _ ⟨σq,hOq,rfl⟩
   have hOq':=SlE.ofGd (show SlE encGd 8 σq r1 _ from hOq.at)
   repeat' (first
    | (refine CZ ?_ ?_)
    | (refine BZ ?_; rintro _ _ ⟨b,rfl,rfl⟩)
    | fail)
   ·refine CY rfl (hhe σq _ hOq') rfl rfl rdZ rfl rfl ?_
    rintro _ _ ⟨pk,ck,σk,hsk,rfl,rfl⟩;refine AJ ?_;refine Aau ?_;refine BV ?_; rintro _ _ ⟨b,rfl,rfl⟩
    revert b; intro b26
    skip
    refine BL ?_;refine' CG rfl _ rfl rfl _ _
    rotate_left
    ·apply A9; exact rfl; exact rfl; exact takeZ; exact oneZ; exact rfl; exact rfl
    ·rintro _ _ ⟨_,rfl⟩ w hw; exact hw.sel Sel.nil
    rintro _ _ ⟨rfl,rfl⟩;refine Aam ?_
    skip
    exact BB (b26,pk,ck,σk) hsk covZ selZ
   ·revert b; intro b26
    refine BL (CY rfl (hhe σq _ hOq') rfl rfl rdZ rfl rfl ?_);rintro _ _ ⟨pk,ck,σk,hsk,rfl,rfl⟩;refine AJ ?_;refine Aa8 ?_;refine' CG rfl _ rfl rfl _ _
    rotate_left
    ·apply A9; exact rfl; exact rfl; exact takeZ; exact oneZ; exact rfl; exact rfl
    ·rintro _ _ ⟨_,rfl⟩ w hw; exact hw.sel Sel.nil
    rintro _ _ ⟨rfl,rfl⟩;refine Aam ?_
    skip
    exact BB (b26,pk,ck,σk) hsk covZ selZ
  ·revert b; intro b26; revert b; intro bb
   refine BL (BO rfl (hco bb) rfl rfl rdZ rfl rfl ?_);rintro r1 _ ⟨σq,hOq,rfl⟩
   have hOq':=SlE.ofGd (show SlE encGd 8 σq r1 _ from hOq.at)
   refine BL (CY rfl (hhe σq _ hOq') rfl rfl rdZ rfl rfl ?_);rintro _ _ ⟨pk,ck,σk,hsk,rfl,rfl⟩;refine AJ ?_;refine Aa8 ?_;refine' CG rfl _ rfl rfl _ _
   rotate_left
   ·apply A9; exact rfl; exact rfl; exact takeZ; exact oneZ; exact rfl; exact rfl
   ·rintro _ _ ⟨_,rfl⟩ w hw; exact hw.sel Sel.nil
   rintro _ _ ⟨rfl,rfl⟩;refine Aam ?_
   skip
   exact BB (b26,pk,ck,σk) hsk covZ selZ
  ·revert b; intro bb; revert b; intro b26
   refine BL (BO rfl (hco bb) rfl rfl rdZ rfl rfl ?_);rintro r1 _ ⟨σq,hOq,rfl⟩
   have hOq':=SlE.ofGd (show SlE encGd 8 σq r1 _ from hOq.at)
   refine BL (CY rfl (hhe σq _ hOq') rfl rfl rdZ rfl rfl ?_);rintro _ _ ⟨pk,ck,σk,hsk,rfl,rfl⟩;refine AJ ?_;refine Aa8 ?_;refine' CG rfl _ rfl rfl _ _
   rotate_left
   ·apply A9; exact rfl; exact rfl; exact takeZ; exact oneZ; exact rfl; exact rfl
   ·rintro _ _ ⟨_,rfl⟩ w hw; exact hw.sel Sel.nil
   rintro _ _ ⟨rfl,rfl⟩;refine Aam ?_
   skip
   exact BB (b26,pk,ck,σk) hsk covZ selZ
 rintro ⟨b26,pk,ck,σk⟩ hsk
 dsimp only at hsk ⊢
 have hda:=rcvData_spec (se:=0) hsk (InI.whole (by omega)) hn1 hn2 (show (0:Int)≤0∧(0:Int)≤1099511627776 by omega) rfl
 have hdd:(!(P.d == P.d))=false:=by simp
 refine Aaz ?_;refine AW hda rfl rfl rdZ rfl rfl ?_;rintro _ rfl;refine Ada ?_;refine Acq ?_;refine BJ ?_;refine AR ?_;refine Abl ?_
 focus ((refine' BQ _ rfl rfl rfl _; rotate_left; (apply GU; exact rfl; exact rfl)))
 refine AR ?_;refine AE ?_
 focus ((rw [hdd]))
 refine Aaf ?_;refine Aah ?_;refine Abw ?_
 obtain ⟨_,_,e0,hR1⟩:=SlE.val (encR1_len P.d) hMo1.at
 simp only [Value.slice.injEq] at e0
 obtain ⟨rfl,_,rfl⟩:=e0
 refine AZ (ρ:=σd) takeZ ?_
 refine BX [2,14,16,239,240] (X:=Nat) 0 (fun i=>i≤O.length) (fun i=>[(241,int (i:Int))]) (fun _=>[sng b16 (.cells #[.bool s1.rcvd,int s1.arr,.bool s1.kn,int s1.knAt,int s1.snd.busy,int s1.ent,int (s1.dat.lost+s1.rep.lost)] 28 (0,0)),σf]) (fun i=>O.length-i) pickZ (Nat.zero_le _) covZ selZ ?_
 rintro i hi
 by_cases hlt:i<O.length
 ·have hx:=List.getElem?_eq_getElem hlt
  have hym:=List.getElem_mem hlt
  generalize O[i]=y at hx hym
  obtain ⟨b8,o8,rfl,hRd⟩:=hR1 i _ hx
  obtain ⟨py,cy,hye,hsy⟩:=hMo2 y hym
  have hym1:y.1∈s1.out1:=by rw [← hMom]; exact List.mem_map.2 ⟨y,hym,rfl⟩
  obtain ⟨⟨ty,sry,Cy⟩,vy⟩:=y
  dsimp only at hye hsy hym1
  subst hye
  have hRd:RdN σd b8 (o8+i*9) [int ty,int 2,int 0,int sry,int 0,int (P.d.length:Int),.bool false,str [],.slice py Cy.length cy]:=hRd
  have hq5:=fun bq=>sndEq_spec σf (sng bq (.cells (elems encS [((0:Int),(P.d.length:Int))]) 49 (0,0))) _ _ Cy [((0:Int),(P.d.length:Int))] hsy (slE_sng (c:=1) encS_len)
  refine Ac8 ?_;refine A6 ?_; rintro _ _ ⟨b,rfl,rfl⟩;refine AX ?_; rintro _ _ ⟨rfl,rfl⟩;refine Ab3 ?_;refine AF ?_
  revert b; intro b31
  have cp:RdP (sng b31 (.cells #[int ty,int 2,int 0,int sry,int 0,int (P.d.length:Int),.bool false,str [],.slice py Cy.length cy] 39 (0,0))) b31 1 [int 2,int 0,int sry,int 0,int (P.d.length:Int),.bool false,str [],.slice py Cy.length cy]:=rdP_sng (xs:=[int ty,int 2,int 0,int sry,int 0,int (P.d.length:Int),.bool false,str [],.slice py Cy.length cy]) rfl
  cases hrc:s1.rcvd with
  | true =>
   focus ((refine BQ (CH rfl rfl (cellsH cp.rd memZ) rfl) rfl rfl rfl ?_))
   refine A6 ?_; rintro _ _ ⟨b,rfl,rfl⟩;refine AX ?_; rintro _ _ ⟨rfl,rfl⟩;refine AE ?_;refine Aao ?_;refine BJ ?_;refine Aap ?_;refine AB ?_
   focus ((refine' BQ _ rfl rfl rfl _; rotate_left; (apply B4; exact rfl; exact rfl)))
   refine BJ ?_;refine Abg ?_;refine BC ?_;refine Abv ?_;refine Aa0 ?_;refine AR ?_;refine Aa3 ?_;refine Abc ?_
   exact BH (i+1) (by omega) (by omega) covZ selZ
  | false =>
   focus ((refine BQ (CH rfl rfl (cellsH cp.rd memZ) rfl) rfl rfl rfl ?_))
   refine A6 ?_; rintro _ _ ⟨b,rfl,rfl⟩;refine AX ?_; rintro _ _ ⟨rfl,rfl⟩;refine AE ?_;refine Aao ?_;refine BJ ?_;refine Aap ?_;refine AB ?_
   focus ((refine' BQ _ rfl rfl rfl _; rotate_left; (apply B4; exact rfl; exact rfl)))
   refine BJ ?_;refine Abg ?_;refine BC ?_;refine Aap ?_;refine AB ?_
   focus ((refine' BQ _ rfl rfl rfl _; rotate_left; (apply B4; exact rfl; exact rfl)))
   refine B5 ?_;refine BS ?_; rintro _ _ ⟨b,rfl,rfl⟩
   revert b; intro bq
   refine AW (hq5 bq (by have:=f8 _ hym1; dsimp only at this; omega)) rfl rfl rdZ rfl rfl ?_
   rintro _ rfl;rw [decide_eq_false (f5 hrc _ hym1)];refine A4 ?_;refine Aa3 ?_;refine Abc ?_
   exact BH (i+1) (by omega) (by omega) covZ selZ
 obtain rfl:i=O.length:=by omega
 refine Aby ?_;refine Aa ?_;refine AW haw rfl rfl rdZ rfl rfl ?_;rintro _ rfl;refine Aaa ?_;exact BE ⟨rfl,rfl⟩
end Go.Proofs.YtahbngakckbenaaGreatDoor
namespace Go.Eng
open Go.ChangeShapes Go.WideShapes Go.RowKit
variable {P:Program} {W:World} {t:TypeId}
end Go.Eng
namespace Go.Proofs.YtahbngakckbenaaGreatDoor
open Go.Eng Go.Step
set_option maxRecDepth 100000
set_option maxHeartbeats 64000000
open Go.ChangeShapes Go.WideShapes Go.ChangeAt Go.RowKit
theorem Tryz.ownTr:ownKnob Tryz.prog.godebug=none:=by kernel_rfl
theorem Tryz.laidOutTr:laidOutB Tryz.prog=true:=by kernel_rfl
theorem trContact_of {W:World} {r:Reach} {base:Nat} {v0:Value} (hv:Value.okWide Tryz.prog W r base 23 v0) (h:RdT Tryz.prog W 23 v0.cells.toList):∃ x:Ct,v0=.agg #[int x.f,int x.t,int x.s,int x.e,int x.r,int x.g,int x.l]:=by
 obtain ⟨cs,rfl⟩:=okWide_agg Tryz.underlying23 hv
 obtain ⟨h1,_⟩:=h.struct Tryz.underlying23
 have hc:Tryz.prog.cellsOf 23=7:=by kernel_rfl
 rw [hc] at h1
 obtain ⟨x⟩:=cs
 match x,h1 with
 | [c0,c1,c2,c3,c4,c5,c6],_ =>
  have k:Tryz.prog.cellsOf 3=1:=by kernel_rfl
  obtain ⟨x0,e0,_⟩:=(h.fld1 Tryz.underlying23 0 rfl rfl rfl k rfl).i64 Tryz.underlying3
  obtain ⟨x1,e1,_⟩:=(h.fld1 Tryz.underlying23 1 rfl rfl rfl k rfl).i64 Tryz.underlying3
  obtain ⟨x2,e2,_⟩:=(h.fld1 Tryz.underlying23 2 rfl rfl rfl k rfl).i64 Tryz.underlying3
  obtain ⟨x3,e3,_⟩:=(h.fld1 Tryz.underlying23 3 rfl rfl rfl k rfl).i64 Tryz.underlying3
  obtain ⟨x4,e4,_⟩:=(h.fld1 Tryz.underlying23 4 rfl rfl rfl k rfl).i64 Tryz.underlying3
  obtain ⟨x5,e5,_⟩:=(h.fld1 Tryz.underlying23 5 rfl rfl rfl k rfl).i64 Tryz.underlying3
  obtain ⟨x6,e6,_⟩:=(h.fld1 Tryz.underlying23 6 rfl rfl rfl k rfl).i64 Tryz.underlying3
  simp at e0 e1 e2 e3 e4 e5 e6
  subst e0 e1 e2 e3 e4 e5 e6;exact ⟨⟨x0,x1,x2,x3,x4,x5,x6⟩,rfl⟩
theorem trSp_of {W:World} {x:List Value} (h:RdT Tryz.prog W 49 x):∃ a:(Int × Int),x=encS a∧True:=by
 obtain ⟨h1,_⟩:=h.struct Tryz.underlying49
 have hc:Tryz.prog.cellsOf 49=2:=by kernel_rfl
 rw [hc] at h1
 match x,h1 with
 | [c0,c1],_ =>
  have k:Tryz.prog.cellsOf 3=1:=by kernel_rfl
  obtain ⟨x0,e0,_⟩:=(h.fld1 Tryz.underlying49 0 rfl rfl rfl k rfl).i64 Tryz.underlying3
  obtain ⟨x1,e1,_⟩:=(h.fld1 Tryz.underlying49 1 rfl rfl rfl k rfl).i64 Tryz.underlying3
  simp at e0 e1
  subst e0 e1;exact ⟨(x0,x1),rfl,trivial⟩
theorem trSpans_of {W:World} {r:Reach} {base:Nat} {v0:Value} (hv:Value.okWide Tryz.prog W r base 25 v0) (h:RdT Tryz.prog W 25 v0.cells.toList):∃ (l:List (Int × Int)),SpAt (heapPH W) v0 l∧l.length≤9223372036854775807:=by
 obtain ⟨a,len,cap,rfl⟩:=okWide_slice Tryz.underlying25 hv
 have h':RdT Tryz.prog W 25 [Value.slice a len cap]:=h
 obtain ⟨v,e,l,h1,h2,h3⟩:=h'.sliceE (enc:=encS) (Q:=fun _=>True) Tryz.underlying25 (s:=2) (by kernel_rfl) (by omega) (fun x hx=>trSp_of hx)
 simp only [List.cons.injEq,and_true] at e;subst e
 exact ⟨l,h1,by simp only [maxLen] at h3; omega⟩
theorem trInts_of {W:World} {r:Reach} {base:Nat} {v0:Value} (hv:Value.okWide Tryz.prog W r base 24 v0) (h:RdT Tryz.prog W 24 v0.cells.toList):∃ (l:List Int),IntsAt (heapPH W) v0 l∧(∀ x∈l,-9223372036854775808≤x∧x≤9223372036854775807)∧l.length≤9223372036854775807:=by
 obtain ⟨a,len,cap,rfl⟩:=okWide_slice Tryz.underlying24 hv
 have h':RdT Tryz.prog W 24 [Value.slice a len cap]:=h
 obtain ⟨v,e,l,h1,h2,h3⟩:=h'.ints Tryz.underlying24 Tryz.underlying3 (by kernel_rfl)
 simp only [List.cons.injEq,and_true] at e;subst e
 exact ⟨l,h1,h2,by simp only [maxLen] at h3; omega⟩
theorem trByte_of {W:World} {r:Reach} {base:Nat} {v0:Value} (hv:Value.okWide Tryz.prog W r base 5 v0) (h:RdT Tryz.prog W 5 v0.cells.toList):∃ n:Int,v0=.int .u8 n∧0≤n∧n≤255:=by
 obtain ⟨n,rfl⟩:=okWide_int Tryz.underlying5 hv
 obtain ⟨m,e,hw⟩:=h.num Tryz.underlying5
 have e2:[Value.int .u8 n]=[Value.int .u8 m]:=e
 simp only [List.cons.injEq,and_true,Value.int.injEq,true_and] at e2;subst e2;simp only [Lit.wf,Bool.and_eq_true,decide_eq_true_eq] at hw;exact ⟨n,rfl,hw.1,hw.2⟩
set_option maxRecDepth 100000 in
theorem topReceivedIsSent_lifted (os:Os) (started:os.Started) (H:Type) (enc:TypeId × Value→H) :
  ReturnsInHanded {} Tryz.checked os 3 .any (fun w args=>(Rows.topReceivedIsSentSpec.pre enc Tryz.prog Tryz.f3 [] false w args∧laidMetH Tryz.prog Rows.topReceivedIsSentRow.laid w)∧sizedMet enc Tryz.prog Tryz.f3 (OpenSpec.ofChange Rows.topReceivedIsSentSpec) false w args)
   (Rows.topReceivedIsSentSpec.post enc Tryz.prog Tryz.f3 false true false false):=by
 refine returnsInHanded_of_change_and (C:=Tryz.checked) (X:=fun w _=>laidMetH Tryz.prog Rows.topReceivedIsSentRow.laid w) (fun _ _ _ hh h=>h.of_heap hh) Tryz.ownTr started (by kernel_rfl) Tryz.func3
  (ChangeSpec.witness_shaped (enc:=enc) (C:=Tryz.checked) (os:=os) (X:=fun w _=>laidMetH Tryz.prog Rows.topReceivedIsSentRow.laid w) false (World.laidAll Tryz.prog os Rows.topReceivedIsSentRow.laid) #[.agg #[.int .i64 0,.int .i64 0,.int .i64 0,.int .i64 0,.int .i64 0,.int .i64 0,.int .i64 0],.int .u8 0,.string ⟨#[]⟩,.slice none 0 0,.int .i64 0,.slice none 0 0,.int .u8 0] 8 (World.laidAll_os _ _ _)
   (World.shaped_of_ZipB (by kernel_rfl) (by kernel_rfl)) (by kernel_rfl) (by kernel_rfl) (by kernel_rfl)
   (by rw [MakeChecks.laidMetH_plain _ _ _ (by kernel_rfl)]; exact laidMet_laidAll _ (by kernel_rfl) (by kernel_rfl))) ?_
 intro W base args ds gs before hval0 hW _ _ _ _
 have hval:∀ (j:Nat) t v,Tryz.f3.params[j]?=some t→args[j]?=some v→Value.okWide Tryz.prog W .any base t v:=hval0
 have hW':=hW
 obtain ⟨p,q,hA0,hV,rfl,hfz,hnd⟩:=hW
 have hA:DataW.TrodAll enc Tryz.prog W 0 (fun _=>true) true Tryz.f3.params.toList args.toList ds p:=hA0
 rw [Tryz.params3] at hA hval
 obtain ⟨v0,vs0,d0,ds0,p0,q0,hargs,rfl,rfl,h0,r0⟩:=trodAll_cons hA
 obtain ⟨v1,vs1,d1,ds1,p1,q1,rfl,rfl,rfl,h1,r1⟩:=trodAll_cons r0
 obtain ⟨v2,vs2,d2,ds2,p2,q2,rfl,rfl,rfl,h2,r2⟩:=trodAll_cons r1
 obtain ⟨v3,vs3,d3,ds3,p3,q3,rfl,rfl,rfl,h3,r3⟩:=trodAll_cons r2
 obtain ⟨v4,vs4,d4,ds4,p4,q4,rfl,rfl,rfl,h4,r4⟩:=trodAll_cons r3
 obtain ⟨v5,vs5,d5,ds5,p5,q5,rfl,rfl,rfl,h5,r5⟩:=trodAll_cons r4
 obtain ⟨v6,vs6,d6,ds6,p6,q6,rfl,rfl,rfl,h6,r6⟩:=trodAll_cons r5
 obtain ⟨rfl,rfl,rfl⟩:=trodAll_nil r6
 obtain rfl:args = #[v0,v1,v2,v3,v4,v5,v6]:=by cases args; simp_all
 obtain ⟨rfl,rfl⟩:=trodVars_none hV
 have lt0:∀ x∈p0,x.block<W.heap.size:=by obtain ⟨m,hm⟩:=h0; exact DataW.trod_lt m _ _ _ hm
 have lt1:∀ x∈p1,x.block<W.heap.size:=by obtain ⟨m,hm⟩:=h1; exact DataW.trod_lt m _ _ _ hm
 have lt2:∀ x∈p2,x.block<W.heap.size:=by obtain ⟨m,hm⟩:=h2; exact DataW.trod_lt m _ _ _ hm
 have lt3:∀ x∈p3,x.block<W.heap.size:=by obtain ⟨m,hm⟩:=h3; exact DataW.trod_lt m _ _ _ hm
 have lt4:∀ x∈p4,x.block<W.heap.size:=by obtain ⟨m,hm⟩:=h4; exact DataW.trod_lt m _ _ _ hm
 have lt5:∀ x∈p5,x.block<W.heap.size:=by obtain ⟨m,hm⟩:=h5; exact DataW.trod_lt m _ _ _ hm
 have lt6:∀ x∈p6,x.block<W.heap.size:=by obtain ⟨m,hm⟩:=h6; exact DataW.trod_lt m _ _ _ hm
 have hlaw:Ans Tryz.prog (fv 3) [v0,v1,v2,v3,v4,v5,v6] [heapPH W] (fun v=>v=.bool true):=by
  obtain ⟨x,rfl⟩:=trContact_of (hval 0 _ v0 rfl rfl) (RdT.of h0)
  obtain ⟨bg,rfl,hb⟩:=trByte_of (hval 1 _ v1 rfl rfl) (RdT.of h1)
  obtain ⟨⟨⟨d⟩⟩,rfl⟩:=okWide_string Tryz.underlying9 (hval 2 _ v2 rfl rfl)
  obtain ⟨l,hl,hk,ll⟩:=trInts_of (hval 3 _ v3 rfl rfl) (RdT.of h3)
  obtain ⟨lim,rfl⟩:=okWide_int Tryz.underlying3 (hval 4 _ v4 rfl rfl)
  obtain ⟨m,hm,lm⟩:=trSpans_of (hval 5 _ v5 rfl rfl) (RdT.of h5)
  obtain ⟨tn,rfl,ht⟩:=trByte_of (hval 6 _ v6 rfl rfl) (RdT.of h6)
  exact (received_law ⟨x,d,x.e,l,lim,m⟩ rfl bg tn hl hk ll hm lm hb ht).rsub (fun _ h=>by simpa using h)
 refine (law_calls Tryz.func3 rfl rfl hlaw).mono fun e W' ⟨he,bel⟩=>?_
 subst he
 exact ⟨_,rfl,_,_,_,[],_,[],hW',trodAll_mk1 (shut_bool Tryz.underlying4 _),(trodAll_cons_mk (Below.trod Tryz.laidOutTr (by kernel_rfl) (of_decide_eq_true (by kernel_rfl)) h0 bel lt0) (trodAll_cons_mk (Below.trod Tryz.laidOutTr (by kernel_rfl) (of_decide_eq_true (by kernel_rfl)) h1 bel lt1) (trodAll_cons_mk (Below.trod Tryz.laidOutTr (by kernel_rfl) (of_decide_eq_true (by kernel_rfl)) h2 bel lt2) (trodAll_cons_mk (Below.trod Tryz.laidOutTr (by kernel_rfl) (of_decide_eq_true (by kernel_rfl)) h3 bel lt3) (trodAll_cons_mk (Below.trod Tryz.laidOutTr (by kernel_rfl) (of_decide_eq_true (by kernel_rfl)) h4 bel lt4) (trodAll_cons_mk (Below.trod Tryz.laidOutTr (by kernel_rfl) (of_decide_eq_true (by kernel_rfl)) h5 bel lt5) (trodAll_cons_mk (Below.trod Tryz.laidOutTr (by kernel_rfl) (of_decide_eq_true (by kernel_rfl)) h6 bel lt6) trodAll_mk0))))))),rfl,bel.frame _,fun h=>by cases h⟩
end Go.Proofs.YtahbngakckbenaaGreatDoor
namespace Go.Proofs.YtahbngakckbenaaGreatDoor
open Go.Eng Go.Step
set_option maxRecDepth 100000
set_option maxHeartbeats 64000000
open Go.ChangeShapes Go.WideShapes Go.ChangeAt Go.RowKit

theorem received_inPlace : Rows.topReceivedIsSentRow.inPlace = Tryz.prog.inPlace 3 := by kernel_rfl
theorem received_unfollowed : Tryz.prog.unfollowed 3 = true := by kernel_rfl
theorem received_recurses : Tryz.prog.recurses 3 = true := by kernel_rfl
theorem received_named : Rows.topReceivedIsSentRow.named = Tryz.prog.varsNamed 3 := by kernel_rfl
theorem received_func : Tryz.prog.funcNamed "mailboat/mailboattop.TopReceivedIsSent" = some 3 := by kernel_rfl
theorem received_joined : joinedFacts Tryz.prog 3 Tryz.f3 Rows.topReceivedIsSentSpec Rows.topReceivedIsSentRow = true := by
 unfold joinedFacts;rw [← received_inPlace, received_unfollowed, received_recurses, ← received_named]
 kernel_rfl
theorem topReceivedIsSent_holds : Rows.TopReceivedIsSentSaid :=
 OpenClaim.holds_of_wide 3 Tryz.f3 rfl rfl rfl rfl rfl rfl rfl ⟨rfl, rfl, rfl, rfl, rfl⟩ rfl rfl rfl rfl rfl received_func Tryz.func3 received_joined
  (of_decide_eq_true (by kernel_rfl)) (by unfold Func.isWrapper; first | (rw [if_pos (by decide +kernel)]; kernel_rfl) | (rw [if_neg (by decide +kernel)]; exact ⟨rfl, rfl⟩))
  (fun os started H enc _ => topReceivedIsSent_lifted os started H enc)
theorem topReceivedIsSentCard_holds : Rows.TopReceivedIsSentCardSaid :=
 Claim7.holds_tied_plain_at .later [] [.data, .pinned] true (true, "18a591474dd7ae89eeaff6a42eb04be19ef7a5980099f078c021653b889ff4c8") false topReceivedIsSent_holds (fun _ h => by cases h) (by as_aux_lemma => kernel_rfl) (fun _ h => by cases h) topReceivedIsSent_row_tie rfl ⟨rfl, rfl⟩ (by as_aux_lemma => kernel_rfl) rfl
  (fun f fn hf hfn => by
   obtain rfl : f = 3 := Option.some.inj (received_func.symm.trans hf) |>.symm
   obtain rfl : fn = Tryz.f3 := (Option.some.inj (Tryz.func3.symm.trans hfn)).symm
   exact ⟨by as_aux_lemma => kernel_rfl, fun j t ht => by
    rw [Tryz.params3] at ht
    have hm : t ∈ [23, 5, 9, 24, 3, 25, 5] := by simpa using Array.mem_of_getElem? ht
    have hall : ([23, 5, 9, 24, 3, 25, 5].all fun u => !Tryz.prog.wantsStandIn u) = true := by kernel_rfl
    exact (show Tryz.prog.wantsStandIn t = false by simpa using List.all_eq_true.1 hall t hm)⟩)
  (by as_aux_lemma => kernel_rfl)
end Go.Proofs.YtahbngakckbenaaGreatDoor
