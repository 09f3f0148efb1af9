/- Texts of this proof, one after the other; no conditions. -/
import Derived.Test.YtekcielcagdcmaaGreatDoorRows
import Derived.Test.YtekcielcagdcmaaGreatDoorTie
import Derived.Test.YtekcielcagdcmaaGreatDoorCards
import Derived.LaidMore
import Derived.Lay
import Derived.SevenTiedAt
import Derived.Test.YtekcielcagdcmaaGreatDoorWB13
import Derived.Test.YtekcielcagdcmaaGreatDoorWB2
import Derived.Test.YtekcielcagdcmaaGreatDoorWB11
import Derived.Test.YtekcielcagdcmaaGreatDoorWB3
import Derived.Test.YtekcielcagdcmaaGreatDoorWB1
import Derived.Test.YtekcielcagdcmaaGreatDoorWB5
import Derived.Test.YtekcielcagdcmaaGreatDoorWB10
import Derived.Test.YtekcielcagdcmaaGreatDoorWB9
set_option linter.all false
/- Sessions: the receiver hears what arrives. -/
namespace Go.Proofs.YtekcielcagdcmaaGreatDoor
open Go.Eng Go.Step
set_option maxRecDepth 100000
set_option maxHeartbeats 64000000
theorem segO_len (d:List UInt8) (o:Option Sg):(segO d o).length=8:=by cases o <;> rfl
theorem segO_ones (d:List UInt8) (o:Option Sg):∀ v∈segO d o,v.oneCell'=true:=by
 cases o with
 | none =>
  intro v hv
  simp only [segO,zSeg,List.mem_cons,List.not_mem_nil,or_false] at hv
  rcases hv with rfl|rfl|rfl|rfl|rfl|rfl|rfl|rfl <;> rfl
 | some x=>exact encG_ones 0 d x
theorem trHear_spec {ρ:PH} {se:Int} {d:List UInt8} {K K':Iv} {p:Option Addr} {c:Nat} {x:Sg} (hv:SpAt ρ (.slice p K.length c) K) (hK:InI d.length K) (hn1:1≤d.length) (hn:d.length≤990) (hse:0≤se∧se≤1099511627776) (hx:okG d.length x) (hU:unionI K [((x.a:Int),(x.b:Int))]=K') (hne:K'≠[]) :
    Eng.Spec Tryz.prog (fv 178) [.agg #[int se,int (totR d K),.slice p K.length c,str (datR d K)],.agg #[int 1,int se,int x.sr,int (x.a:Int),int (d.length:Int),.bool (decide (1≤x.sr)),str (cutD d x.a x.b),.slice none 0 0]] [ρ] [] (fun r H'=>∃ p1 c1 σ1,OwnS 77 2 (.slice p1 K'.length c1) K'.length (K'.flatMap encS) σ1 ∧
      ((¬ 1≤x.sr∧r=.tuple #[.agg #[int se,int (totR d K'),.slice p1 K'.length c1,str (datR d K')],.slice none 0 0,int 0]∧H'=[σ1]) ∨
       (1≤x.sr∧∃ p2 c2 σ2 bn,OwnS 77 2 (.slice p2 K'.length c2) K'.length (K'.flatMap encS) σ2∧r=.tuple #[.agg #[int se,int (totR d K'),.slice p1 K'.length c1,str (datR d K')],.slice (some ⟨bn,0,none⟩) 1 1,int 0]∧H'=[sng bn (.cells #[int 2,int se,int x.sr,int 0,int (d.length:Int),.bool false,str [],.slice p2 K'.length c2] 54 (0,0)),σ2,σ1]))):=by
  subst hU
  have e1:totR d (unionI K [((x.a:Int),(x.b:Int))])=(d.length:Int):=if_neg hne
  have e2:datR d (unionI K [((x.a:Int),(x.b:Int))])=maskD d (unionI K [((x.a:Int),(x.b:Int))]):=if_neg hne
  rw [e1,e2];exact rcvHear_spec hv hK hn1 hn hse hx
def DlvI (P:Par) (t0 lr lw lt n:Int) (T:Ss) (s1:Ss):Option Sg→Prop
 | none=>s1=T
 | some x=>okG P.d.length x∧SI P t0 s1 n lr lw lt∧SI P t0 (dlv1 P s1 x) n lr lw lt∧rcOK P (dlv1 P s1 x)∧s1.now=n∧(dlv1 P s1 x).now=n∧T=dlvM P (dlv1 P s1 x).dat.fr.length (dlv1 P s1 x)∧(0≤s1.dis∧s1.dis+s1.dat.fr.length+1≤1152921504606846976)∧n≤1099511627776
theorem trGetO0_spec {P:Par} {t0:Int} {s T:Ss} {pp pq:Option Addr} {cp cq:Nat} {M:Mm} {σ:S6} {lr lw lt n:Int} (hP:okP P t0) (hS:SI P t0 s n lr lw lt) (hrc:rcOK P s) (hnn:s.now=n) (hn:0≤n) (hl:lr≤n+P.c.g) (hdis:0≤s.dis∧s.dis+s.dat.fr.length≤1152921504606846976) (hT:T=dlvM P s.dat.fr.length s) (hM:MOK P s M σ) (bs:Nat) :
  Eng.Spec Tryz.prog (fv 177) [.pointer (some ⟨bs,0,none⟩),.pointer (some ⟨bs,0,none⟩)] [] [sesB pp pq cp cq P s M bs,σ.a] (fun r H'=>∃ o s1 M1 ρ1,DlvI P t0 lr lw lt n T s1 o∧MOK P s1 M1 { σ with a:=ρ1 }∧(o.isSome=true→s1.dat.fr.length+1=s.dat.fr.length)∧r=.tuple #[.agg (segO P.d o).toArray,.bool o.isSome]∧H'=[sesB pp pq cp cq P s1 M1 bs,ρ1]):=by
 subst hnn;refine (trGet0_spec hP hS hrc hn hl hM bs).mono ?_;rintro r H' (⟨h1,h2,h3⟩|⟨x,l,M',ρ',h1,h2,h3,h4,h5,h6,h7,h8,h9,h10,h11⟩)
 ·exact ⟨none,s,M,σ.a,(h1 _).symm.trans hT.symm,hM,(fun h=>by cases h),h2,h3⟩
 ·exact ⟨some x,_,M',ρ',⟨h2,h4,h5,h6,rfl,h7,hT.trans h8,⟨hdis.1,by dsimp only; omega⟩,h9⟩,h10,fun _=>h3.symm,h1,h11⟩
structure Dl where
 b:Nat
 p1:Option Addr
 c1:Nat
 k:PH
 pn:Option Addr
 m:Nat
 n:PH
 p2:Option Addr
 c2:Nat
 r:PH
theorem MOK.ent1 {P:Par} {s:Ss} {M:Mm} {σ:S6} (h:MOK P s M σ) {cr:Ch} {dr er sr:Int} {ol:List (Int × Int × Iv)} {G':List (Frm × Value)} {O':List ((Int × Int × Iv) × Value)} {p' po p2:Option Addr} {c' co c2:Nat} {σ' σo:PH} {C:Iv} (hv:SpAt σ.f (.slice p2 C.length c2) C) (e1:G'.map (·.1)=cr.fr) (e2:∀ f∈G',f∈M.G∨(f.2=.slice p2 C.length c2∧f.1.g=.rep sr C)) (hO:OwnS 283 10 (.slice p' G'.length c') G'.length (G'.flatMap (encF P.d)) σ') (e3:O'.map (·.1)=ol) (e4:∀ y∈O',y∈M.O∨(y.2=.slice p2 C.length c2∧y.1.2=(sr,C))) (hO2:OwnS 56 9 (.slice po O'.length co) O'.length (O'.flatMap (encR1 P.d)) σo) :
  MOK P { s with rep:=cr,dis:=dr,ent:=er,out1:=ol } { M with G:=G',p1:=p',c1:=c',O:=O',p3:=po,c3:=co } { σ with b:=σ',d:=σo }:=
 ⟨h.d,h.dm,h.d1,hO,e1,fun f hf=>(e2 f hf).elim (fun k=>h.r1 f k) (fun k=>⟨sr,C,p2,c2,k.2,k.1,hv⟩),h.o0,hO2,e3,fun y hy=>(e4 y hy).elim (fun k=>h.o2 y k) (fun k=>⟨p2,c2,by rw [k.2]; exact k.1,by rw [k.2]; exact hv⟩),h.w,h.a,h.k⟩
theorem MOK.heard {P:Par} {s:Ss} {M:Mm} {σ:S6} (h:MOK P s M σ) {γ:PH} {K2:Iv} {p1:Option Addr} {c1:Nat} (g:PH.sub σ.f γ) (hk:SpAt γ (.slice p1 K2.length c1) K2) :
  MOK P { s with K:=K2 } { M with p5:=p1,c5:=c1 } { σ with f:=γ }:=
 ⟨h.d,h.dm,h.d1,h.r,h.rm,fun f hf=>(by obtain ⟨sr,C,p,c,k1,k2,k3⟩:=h.r1 f hf; exact ⟨sr,C,p,c,k1,k2,k3.mono g⟩),h.o0,h.o1,h.om,fun y hy=>(by obtain ⟨p,c,k1,k2⟩:=h.o2 y hy; exact ⟨p,c,k1,k2.mono g⟩),h.w,h.a.mono g,hk⟩
theorem MOK.fin {P:Par} {s:Ss} {M:Mm} {σ:S6} (h:MOK P s M σ) (r:Bool) (a:Int):MOK P { s with rcvd:=r,arr:=a } M σ:=⟨h.d,h.dm,h.d1,h.r,h.rm,h.r1,h.o0,h.o1,h.om,h.o2,h.w,h.a,h.k⟩
theorem trDeliver_spec {ρp ρd:PH} {P:Par} {t0:Int} {s:Ss} {pp pq:Option Addr} {cp cq:Nat} {M:Mm} {σ:S6} {lr lw lt n:Int} (hF:FixOK P t0 pp pq cp cq ρp ρd) (hS:SI P t0 s n lr lw lt) (hrc:rcOK P s) (hnn:s.now=n) (hn:0≤n) (hlr:0≤lr) (hl:lr≤n+P.c.g) (hdis:0≤s.dis∧s.dis+s.dat.fr.length≤1152921504606846976) (hM:MOK P s M σ) (bs:Nat) :
  Eng.Spec Tryz.prog (fv 140) [.pointer (some ⟨bs,0,none⟩)] [ρp,ρd] [sesB pp pq cp cq P s M bs,σ.a,σ.b,σ.c,σ.d,σ.e,σ.f] (fun r H'=>r=.tuple #[]∧∃ M' σ',MOK P (dlvM P s.dat.fr.length s) M' σ'∧H'=[sesB pp pq cp cq P (dlvM P s.dat.fr.length s) M' bs,σ'.a,σ'.b,σ'.c,σ'.d,σ'.e,σ'.f]):=by
 have hP:=hF.ok
 have hn1:=hP.n1
 have hn2:=hP.n2
 have hcr:=chkCt_rg hP.hc
 have h2:=hP.h2
 have hg0:=trGetO0_spec (pp:=pp) (pq:=pq) (cp:=cp) (cq:=cq) hP hS hrc hnn hn hl hdis rfl hM bs
 generalize dlvM P s.dat.fr.length s=T at hg0 ⊢
 refine spec_in (cap:=[]) Tryz.func140 rfl rfl Tryz.ntmps140 rfl envZ (fun N β=>?_)
 refine Adn ?_;refine AG ?_;refine BI hg0 rfl rfl takesZ rdZ rfl rfl ?_;rintro _ _ ⟨o,s1,M1,ρ1,hI,hM1,_,rfl,rfl⟩;refine Acq ?_;refine A4 ?_; rintro _ _ ⟨b,rfl,rfl⟩
 revert b; intro b2
 refine B4 (BA (vs:=segO P.d o) rfl rfl takeZ (segO_ones _ _) (by rw [segO_len]; rfl) (by rw [segO_len]; rfl)) rfl rfl ?_
 rintro _ _ ⟨rfl,rfl⟩;refine Aaa ?_;refine A5 ?_
 refine BU [0] (X:=Ss × Mm × S6 × Option Sg × Nat) (s1,M1,{ σ with a:=ρ1 },o,b2) (fun z=>DlvI P t0 lr lw lt n T z.1 z.2.2.2.1∧MOK P z.1 z.2.1 z.2.2.1) (fun z=>[(2,.pointer (some ⟨z.2.2.2.2,0,none⟩)),(3,.bool z.2.2.2.1.isSome)]) (fun z=>[sesB pp pq cp cq P z.1 z.2.1 bs,z.2.2.1.a,z.2.2.1.b,z.2.2.1.c,z.2.2.1.d,z.2.2.1.e,z.2.2.1.f,sng z.2.2.2.2 (.cells (segO P.d z.2.2.2.1).toArray 54 (0,0))]) (fun z=>if z.2.2.2.1.isSome=true then z.1.dat.fr.length+1 else 0) pickZ ⟨hI,hM1⟩ covZ selZ ?_
 rintro ⟨s2,M2,σ2,o2,b3⟩ ⟨hI2,hM2⟩
 dsimp only at hI2 hM2 ⊢
 rcases o2 with _|x
 ·obtain rfl:s2=T:=hI2
  refine Aah ?_;refine Adh ?_;exact BV (H':=[sesB pp pq cp cq P s2 M2 bs,σ2.a,σ2.b,σ2.c,σ2.d,σ2.e,σ2.f]) (res0 rfl) rsubZ selZ ⟨rfl,M2,σ2,hM2,rfl⟩
 obtain ⟨hxo,hS2,hS3,hr3,hn2',hn3,hT,hd2,hb⟩:=hI2
 repeat refine AD ?_
 refine AA ?_;refine Aav ?_
 repeat refine AD ?_
 refine Aa1 ?_
 repeat refine AD ?_
 refine DG (X:=Mm × S6) [0,2] (fun z=>MOK P (dlv1 P s2 x) z.1 z.2) (fun _=>[]) (fun z=>[sesB pp pq cp cq P (dlv1 P s2 x) z.1 bs,z.2.a,z.2.b,z.2.c,z.2.d,z.2.e,z.2.f,sng b3 (.cells (segO P.d (some x)).toArray 54 (0,0))]) pickZ ?_ ?_
 rotate_left
 ·rintro ⟨M3,σ3⟩ hM3
  dsimp only at hM3 ⊢
  have hdis3:=dlv1_dis P s2 x
  have hdat3:=dlv1_dat P s2 x
  have hg3:=trGetO0_spec (pp:=pp) (pq:=pq) (cp:=cp) (cq:=cq) hP hS3 hr3 hn3 hn hl ⟨by omega,by rw [hdat3]; omega⟩ hT hM3 bs
  generalize dlv1 P s2 x=s3 at *
  refine Abz ?_;refine AE ?_;refine AA ?_;refine A4 ?_; rintro _ _ ⟨b,rfl,rfl⟩;refine AY ?_; rintro _ _ ⟨rfl,rfl⟩;refine AE ?_;refine Acp ?_;refine Abc ?_;refine AG ?_
  revert b; intro b4
  refine BI hg3 rfl rfl takesZ rdZ rfl rfl ?_;rintro _ _ ⟨o4,s4,M4,ρ4,hI4,hM4,hlen4,rfl,rfl⟩;refine Acq ?_
  refine B4 (BA (vs:=segO P.d o4) rfl rfl takeZ (segO_ones _ _) (by rw [segO_len]; rfl) (by rw [segO_len]; rfl)) rfl rfl ?_
  rintro _ _ ⟨rfl,rfl⟩;refine Aaa ?_
  exact BG (s4,M4,{ σ3 with a:=ρ4 },o4,b4) ⟨hI4,hM4⟩ (by
   dsimp only
   rw [if_pos (show (some x).isSome=true from rfl)]
   split
   ·rename_i ho
    have:=hlen4 ho
    rw [hdat3] at this;omega
   ·omega) covZ selZ
 obtain ⟨F,G,O,p0,p1',p2',p3,p4,p5,p6,c0,c1',c2'',c3,c4,c5,c6⟩:=M2
 have hk2:=hS2.k
 have hen2:=hS2.en
 have hl2:=hS2.dat.lst
 have hl3:=hS2.rep.lst
 have hxo2:=hxo
 obtain ⟨x1,x2,x3,x4,x5⟩:=hxo2
 obtain ⟨hK2,_,hne⟩:=hk2.put (a:=(x.a:Int)) (b:=(x.b:Int)) (by omega) (by omega) (by omega)
 have hhear:=trHear_spec (K':=unionI s2.K [((x.a:Int),(x.b:Int))]) hM2.k hk2 hn1 hn2 (show (0:Int)≤0∧(0:Int)≤1099511627776 by omega) hxo rfl hne
 have hd1:=dlv1_eq P s2 x
 have hA0:¬ 1≤x.sr→dlvA P s2 x={ s2 with K:=unionI s2.K [((x.a:Int),(x.b:Int))] }:=fun h=>if_neg h
 have hA1:1≤x.sr→dlvA P s2 x=enter1 P { s2 with K:=unionI s2.K [((x.a:Int),(x.b:Int))] } s2.now x.sr (unionI s2.K [((x.a:Int),(x.b:Int))]):=fun h=>if_pos h
 have hKA:(dlvA P s2 x).K=unionI s2.K [((x.a:Int),(x.b:Int))]:=by obtain ⟨_,_,_,_,e⟩:=dlvA_frame P s2 x; rw [e]
 generalize hKK:unionI s2.K [((x.a:Int),(x.b:Int))]=K2 at *
 unfold sesB
 dsimp only
 have c31:RdN (sng bs (.cells #[int P.c.g,.slice p0 F.length c0,int s2.dat.sent,int s2.dat.lost,int P.c.g,.slice p1' G.length c1',int s2.rep.sent,int s2.rep.lost,.slice pp P.picks.length cp,int P.limit,.slice pq P.dark.length cq,int s2.ent,int s2.dis,.slice p2' s2.out0.length c2'',.slice p3 O.length c3,int s2.now,int P.c.f,int P.c.t,int P.c.s,int P.c.e,int P.c.r,int P.c.g,int P.c.l,int 0,str P.d,int P.e,int s2.snd.busy,int s2.snd.sr,.slice p4 s2.snd.K.length c4,int s2.snd.due,int s2.snd.st,int 0,int (totR P.d s2.K),.slice p5 s2.K.length c5,str (datR P.d s2.K),.slice p6 s2.wait.length c6,.bool s2.rcvd,int s2.arr,.bool s2.kn,int s2.knAt] 101 (0,0))) bs 31 [int 0,int (totR P.d s2.K),.slice p5 s2.K.length c5,str (datR P.d s2.K)]:=(rdP_sng (xs:=[int P.c.g,.slice p0 F.length c0,int s2.dat.sent,int s2.dat.lost,int P.c.g,.slice p1' G.length c1',int s2.rep.sent,int s2.rep.lost,.slice pp P.picks.length cp,int P.limit,.slice pq P.dark.length cq,int s2.ent,int s2.dis,.slice p2' s2.out0.length c2'',.slice p3 O.length c3,int s2.now,int P.c.f,int P.c.t,int P.c.s,int P.c.e,int P.c.r,int P.c.g,int P.c.l,int 0,str P.d,int P.e,int s2.snd.busy,int s2.snd.sr,.slice p4 s2.snd.K.length c4,int s2.snd.due,int s2.snd.st,int 0,int (totR P.d s2.K),.slice p5 s2.K.length c5,str (datR P.d s2.K),.slice p6 s2.wait.length c6,.bool s2.rcvd,int s2.arr,.bool s2.kn,int s2.knAt]) rfl).rd
 have cx:RdN (sng b3 (.cells (segO P.d (some x)).toArray 54 (0,0))) b3 0 [int 1,int 0,int x.sr,int (x.a:Int),int (P.d.length:Int),.bool (decide (1≤x.sr)),str (cutD P.d x.a x.b),.slice none 0 0]:=rdN_sng (vs:=[int 1,int 0,int x.sr,int (x.a:Int),int (P.d.length:Int),.bool (decide (1≤x.sr)),str (cutD P.d x.a x.b),.slice none 0 0])
 refine A5 ?_
 repeat refine AD ?_
 refine DG (X:=Dl) [0,2] (fun z=>OwnS 77 2 (.slice z.p1 K2.length z.c1) K2.length (K2.flatMap encS) z.k∧((¬ 1≤x.sr∧z.pn=none∧z.m=0∧z.n=emp∧z.r=emp)∨(1≤x.sr∧z.m=1∧OwnS 77 2 (.slice z.p2 K2.length z.c2) K2.length (K2.flatMap encS) z.r∧∃ bn,z.pn=some ⟨bn,0,none⟩∧z.n=sng bn (.cells #[int 2,int 0,int x.sr,int 0,int (P.d.length:Int),.bool false,str [],.slice z.p2 K2.length z.c2] 54 (0,0))))) (fun z=>[(4,.pointer (some ⟨z.b,0,none⟩)),(5,.slice z.pn z.m z.m),(6,int 0)]) (fun z=>[sng z.b (.cells #[int 0,int (totR P.d K2),.slice z.p1 K2.length z.c1,str (datR P.d K2)] 99 (0,0)),sng bs (.cells #[int P.c.g,.slice p0 F.length c0,int s2.dat.sent,int s2.dat.lost,int P.c.g,.slice p1' G.length c1',int s2.rep.sent,int s2.rep.lost,.slice pp P.picks.length cp,int P.limit,.slice pq P.dark.length cq,int s2.ent,int s2.dis,.slice p2' s2.out0.length c2'',.slice p3 O.length c3,int s2.now,int P.c.f,int P.c.t,int P.c.s,int P.c.e,int P.c.r,int P.c.g,int P.c.l,int 0,str P.d,int P.e,int s2.snd.busy,int s2.snd.sr,.slice p4 s2.snd.K.length c4,int s2.snd.due,int s2.snd.st,int 0,int (totR P.d s2.K),.slice p5 s2.K.length c5,str (datR P.d s2.K),.slice p6 s2.wait.length c6,.bool s2.rcvd,int s2.arr,.bool s2.kn,int s2.knAt] 101 (0,0)),σ2.a,σ2.b,σ2.c,σ2.d,σ2.e,σ2.f,z.k,z.n,z.r,sng b3 (.cells (segO P.d (some x)).toArray 54 (0,0))]) pickZ ?_ ?_
 ·refine BB (.q 0 (.q 1 (.q 2 (.q 3 (.q 4 (.l2 5 .e (.q 6 (.q 7 (.p 8 (.p 9 (.l 10 .e (.l 11 .b (.q 12 (.q 13 .nil)))))))) 10 .e (.l 5 .e (.q 6 (.q 7 (.p 8 (.p 9 (.l 11 .b (.q 12 (.q 13 .nil)))))))))))))) [] rfl (by kernel_rfl) Sel.nil ?_
  repeat' (first
   | (refine AL ?_)
   | (refine A2 ?_)
   | (refine A3 ?_)
   | (refine BP ?_)
   | (refine C4 ?_ ?_)
   | (refine CC ?_; rintro _ _ ⟨b,rfl,rfl⟩)
   | fail)
  ·refine DN rfl hhear rfl rfl rdZ rfl rfl ?_
   rintro _ _ ⟨p1,c1,σk,hO1,⟨hs,rfl,rfl⟩|⟨hs,p2,c2',σr,bn,hO2,rfl,rfl⟩⟩
   ·refine AL ?_
    refine Acr ?_;refine B5 ?_; rintro _ _ ⟨b,rfl,rfl⟩
    revert b; intro b4
    skip
    refine BQ ?_;refine' CO rfl _ rfl rfl _ _
    rotate_left
    ·apply BA; exact rfl; exact rfl; exact takeZ; exact oneZ; exact rfl; exact rfl
    ·rintro _ _ ⟨_,rfl⟩ w hw; exact hw.sel Sel.nil
    rintro _ _ ⟨rfl,rfl⟩;refine Abo ?_
    skip
    refine CG ?_;refine CG ?_;exact BF ⟨b4,p1,c1,σk,none,0,emp,none,0,emp⟩ ⟨hO1,.inl ⟨hs,rfl,rfl,rfl,rfl⟩⟩ covZ selZ
   ·refine AL ?_
    refine Acr ?_;refine B5 ?_; rintro _ _ ⟨b,rfl,rfl⟩
    revert b; intro b4
    skip
    refine BQ ?_;refine' CO rfl _ rfl rfl _ _
    rotate_left
    ·apply BA; exact rfl; exact rfl; exact takeZ; exact oneZ; exact rfl; exact rfl
    ·rintro _ _ ⟨_,rfl⟩ w hw; exact hw.sel Sel.nil
    rintro _ _ ⟨rfl,rfl⟩;refine Abo ?_
    skip
    exact BF ⟨b4,p1,c1,σk,some ⟨bn,0,none⟩,1,sng bn _,p2,c2',σr⟩ ⟨hO1,.inr ⟨hs,rfl,hO2,bn,rfl,rfl⟩⟩ covZ selZ
  ·revert b; intro b4
   refine BQ (DN rfl hhear rfl rfl rdZ rfl rfl ?_);rintro _ _ ⟨p1,c1,σk,hO1,⟨hs,rfl,rfl⟩|⟨hs,p2,c2',σr,bn,hO2,rfl,rfl⟩⟩
   ·refine AL ?_
    refine Acr ?_;refine BQ ?_;refine' CO rfl _ rfl rfl _ _
    rotate_left
    ·apply BA; exact rfl; exact rfl; exact takeZ; exact oneZ; exact rfl; exact rfl
    ·rintro _ _ ⟨_,rfl⟩ w hw; exact hw.sel Sel.nil
    rintro _ _ ⟨rfl,rfl⟩;refine Abo ?_
    skip
    refine CG ?_;refine CG ?_;exact BF ⟨b4,p1,c1,σk,none,0,emp,none,0,emp⟩ ⟨hO1,.inl ⟨hs,rfl,rfl,rfl,rfl⟩⟩ covZ selZ
   ·refine AL ?_
    refine Acr ?_;refine BQ ?_;refine' CO rfl _ rfl rfl _ _
    rotate_left
    ·apply BA; exact rfl; exact rfl; exact takeZ; exact oneZ; exact rfl; exact rfl
    ·rintro _ _ ⟨_,rfl⟩ w hw; exact hw.sel Sel.nil
    rintro _ _ ⟨rfl,rfl⟩;refine Abo ?_
    skip
    exact BF ⟨b4,p1,c1,σk,some ⟨bn,0,none⟩,1,sng bn _,p2,c2',σr⟩ ⟨hO1,.inr ⟨hs,rfl,hO2,bn,rfl,rfl⟩⟩ covZ selZ
 rintro ⟨b4,p1,c1,σk,pn,m,σn,p2,c2',σr⟩ ⟨hO1,hz⟩
 dsimp only at hO1 hz ⊢
 refine Ad2 ?_;refine Aab ?_;refine AQ ?_;refine Abc ?_
 refine B4 (C3 (vs:=[int 0,int (totR P.d K2),.slice p1 K2.length c1,str (datR P.d K2)]) rfl rfl oneZ rfl takeZ (by show 31+4≤40; omega)) rfl rfl ?_
 rintro _ _ ⟨rfl,rfl⟩
 change JK _ _ _ (sng bs (.cells #[int P.c.g,.slice p0 F.length c0,int s2.dat.sent,int s2.dat.lost,int P.c.g,.slice p1' G.length c1',int s2.rep.sent,int s2.rep.lost,.slice pp P.picks.length cp,int P.limit,.slice pq P.dark.length cq,int s2.ent,int s2.dis,.slice p2' s2.out0.length c2'',.slice p3 O.length c3,int s2.now,int P.c.f,int P.c.t,int P.c.s,int P.c.e,int P.c.r,int P.c.g,int P.c.l,int 0,str P.d,int P.e,int s2.snd.busy,int s2.snd.sr,.slice p4 s2.snd.K.length c4,int s2.snd.due,int s2.snd.st,int 0,int (totR P.d K2),.slice p1 K2.length c1,str (datR P.d K2),.slice p6 s2.wait.length c6,.bool s2.rcvd,int s2.arr,.bool s2.kn,int s2.knAt] 101 (0,0))::_) _ _
 refine E3 (ρ:=σ2.f) (σ:=σk) takeZ takeZ (fun γ1 g1 g2=>?_)
 refine E3 (ρ:=γ1) (σ:=σr) takeZ takeZ (fun γ g3 g4=>?_)
 have hMh:=MOK.heard hM2 (fun b o h=>g3 b o (g1 b o h)) (SlE.mono hO1.at (fun b o h=>g3 b o (g2 b o h)))
 refine AS (ρ:=σn) takeZ ?_;refine Adi ?_;refine Aby ?_
 refine BU [0,2,44,45] (X:=Nat × Ss × Mm × S6) (0,{ s2 with K:=K2 },⟨F,G,O,p0,p1',p2',p3,p4,p1,p6,c0,c1',c2'',c3,c4,c1,c6⟩,{ σ2 with f:=γ }) (fun z=>z.1≤m∧((z.1=0∧z.2=({ s2 with K:=K2 },⟨F,G,O,p0,p1',p2',p3,p4,p1,p6,c0,c1',c2'',c3,c4,c1,c6⟩,{ σ2 with f:=γ }))∨(z.1=m∧z.2.1=dlvA P s2 x∧MOK P (dlvA P s2 x) z.2.2.1 z.2.2.2))) (fun z=>[(46,int (z.1:Int))]) (fun z=>[sesB pp pq cp cq P z.2.1 z.2.2.1 bs,z.2.2.2.a,z.2.2.2.b,z.2.2.2.c,z.2.2.2.d,z.2.2.2.e,z.2.2.2.f,sng b3 (.cells (segO P.d (some x)).toArray 54 (0,0))]) (fun z=>m-z.1) pickZ ⟨Nat.zero_le _,.inl ⟨rfl,rfl⟩⟩ covZ selZ ?_
 rintro ⟨i,s4,M4,σ4⟩ ⟨hi,hI4⟩
 dsimp only at hi hI4 ⊢
 by_cases hlt:i<m
 ·rcases hz with ⟨_,_,rfl,_,_⟩|⟨hs,rfl,hO2,bn,rfl,rfl⟩
  ·omega
  have hi0:i=0:=by omega
  subst hi0
  rcases hI4 with ⟨_,e⟩|⟨e,_⟩
  rotate_left
  ·omega
  simp only [Prod.mk.injEq] at e
  obtain ⟨rfl,rfl,rfl⟩:=e
  have cn:=rdB bn 54 [int 2,int 0,int x.sr,int 0,int (P.d.length:Int),.bool false,str [],.slice p2 K2.length c2']
  unfold sesB
  dsimp only
  have hol:O.length=s2.out1.length:=by rw [← hM2.om,List.length_map]
  have hr2:SpAt γ (.slice p2 K2.length c2') K2:=SlE.mono hO2.at g4
  have hen:=trEnter1_spec (s:={ s2 with K:=K2 }) (y0:=int P.c.g) (y1:=.slice p0 F.length c0) (y2:=int s2.dat.sent) (y3:=int s2.dat.lost) (y13:=.slice p2' s2.out0.length c2'') (y15:=int s2.now) (y16:=int P.c.f) (y17:=int P.c.t) (y18:=int P.c.s) (y19:=int P.c.e) (y20:=int P.c.r) (y21:=int P.c.g) (y22:=int P.c.l) (y23:=int 0) (y24:=str P.d) (y25:=int P.e) (y26:=int s2.snd.busy) (y27:=int s2.snd.sr) (y28:=.slice p4 s2.snd.K.length c4) (y29:=int s2.snd.due) (y30:=int s2.snd.st) (y31:=int 0) (y32:=int (totR P.d K2)) (y33:=.slice p1 K2.length c1) (y34:=str (datR P.d K2)) (y35:=.slice p6 s2.wait.length c6) (y36:=.bool s2.rcvd) (y37:=int s2.arr) (y38:=.bool s2.kn) (y39:=int s2.knAt) (v:=.slice p2 K2.length c2') (sr:=x.sr) (C:=K2) (t:=s2.now) hF.p hF.pk hF.pl hF.q hF.q0 hcr.2.1 ⟨by dsimp only; omega,by dsimp only; omega⟩ ⟨by dsimp only; omega,by dsimp only; omega⟩ (delM_ok hP { s2 with K:=K2 } s2.now) ⟨by omega,by omega⟩ hM2.r (fun f hf=>by obtain ⟨_,_,_,_,_,e,_⟩:=hM2.r1 f hf; rw [e]; rfl) hM2.rm hS2.rep hlr (Int.le_refl _) (by dsimp only; omega) hM2.o1 hM2.om (by show O.length≤100000; omega) rfl trivial bs
  obtain ⟨cr,dr,er,ol,hE⟩:=enter1_frame P { s2 with K:=K2 } s2.now x.sr K2
  rw [hE] at hen
  dsimp only at hen
  refine Ade ?_;refine A4 ?_; rintro _ _ ⟨b,rfl,rfl⟩;refine AY ?_; rintro _ _ ⟨rfl,rfl⟩;refine AE ?_
  revert b; intro b8
  refine BB (.q 0 (.q 1 (.q 2 (.q 3 (.q 4 (.q 5 (.q 6 (.q 7 (.q 8 (.q 9 (.q 10 (.q 11 (.l 12 .b .nil))))))))))))) [] rfl (by kernel_rfl) Sel.nil ?_
  refine Acl ?_;refine Acl ?_;refine A2 ?_;refine Aa0 ?_;refine BP ?_
  refine BQ (CH rfl hen rfl rfl takesZ rdZ rfl rfl (fun _ _ _ w hw=>hw.sel Sel.nil) ?_)
  rintro _ _ ⟨rfl,G',p',c',σ',O',po',co',σo',e1,e2,hO',e3,e4,hO3,rfl⟩;refine A8 ?_;refine Abf ?_
  have hMe:=MOK.ent1 (cr:=cr) (dr:=dr) (er:=er) (sr:=x.sr) (ol:=ol) hMh hr2 e1 e2 hO' e3 e4 hO3
  have hAE:=(hA1 hs).trans hE
  dsimp only at hAE
  exact BG (1,_,_,_) ⟨Nat.le_refl _,.inr ⟨rfl,hAE.symm,by rw [hAE]; exact hMe⟩⟩ (by dsimp only; omega) covZ selZ
 have hx:s4=dlvA P s2 x∧MOK P (dlvA P s2 x) M4 σ4:=by
  rcases hI4 with ⟨h0,e⟩|⟨_,e,h⟩
  ·simp only [Prod.mk.injEq] at e
   obtain ⟨rfl,rfl,rfl⟩:=e
   rcases hz with ⟨hs,_⟩|⟨_,hm,_⟩
   ·rw [hA0 hs]
    exact ⟨rfl,hMh⟩
   ·omega
  ·exact ⟨e,h⟩
 obtain ⟨rfl,hMA⟩:=hx
 rw [hd1];clear hd1 hI4 hMh hA0 hA1
 generalize dlvA P s2 x=sA at *
 obtain ⟨F,G,O,p0,p1,p2,p3,p4,p5,p6,c0,c1,c2,c3,c4,c5,c6⟩:=M4
 obtain ⟨ydat,yrep,yent,ydis,yout0,yout1,ynow,ysnd,yK,ywait,yrcvd,yarr,ykn,yknAt⟩:=sA
 dsimp only at hKA
 subst hKA
 have hco:=rcvComplete_spec (se:=0) hMA.k hK2 hn1 hn2 (show (0:Int)≤0∧(0:Int)≤1099511627776 by omega)
 unfold sesB
 dsimp only at hco ⊢
 have c31:RdN (sng bs (.cells #[int P.c.g,.slice p0 F.length c0,int ydat.sent,int ydat.lost,int P.c.g,.slice p1 G.length c1,int yrep.sent,int yrep.lost,.slice pp P.picks.length cp,int P.limit,.slice pq P.dark.length cq,int yent,int ydis,.slice p2 yout0.length c2,.slice p3 O.length c3,int ynow,int P.c.f,int P.c.t,int P.c.s,int P.c.e,int P.c.r,int P.c.g,int P.c.l,int 0,str P.d,int P.e,int ysnd.busy,int ysnd.sr,.slice p4 ysnd.K.length c4,int ysnd.due,int ysnd.st,int 0,int (totR P.d yK),.slice p5 yK.length c5,str (datR P.d yK),.slice p6 ywait.length c6,.bool yrcvd,int yarr,.bool ykn,int yknAt] 101 (0,0))) bs 31 [int 0,int (totR P.d yK),.slice p5 yK.length c5,str (datR P.d yK)]:=(rdP_sng (xs:=[int P.c.g,.slice p0 F.length c0,int ydat.sent,int ydat.lost,int P.c.g,.slice p1 G.length c1,int yrep.sent,int yrep.lost,.slice pp P.picks.length cp,int P.limit,.slice pq P.dark.length cq,int yent,int ydis,.slice p2 yout0.length c2,.slice p3 O.length c3,int ynow,int P.c.f,int P.c.t,int P.c.s,int P.c.e,int P.c.r,int P.c.g,int P.c.l,int 0,str P.d,int P.e,int ysnd.busy,int ysnd.sr,.slice p4 ysnd.K.length c4,int ysnd.due,int ysnd.st,int 0,int (totR P.d yK),.slice p5 yK.length c5,str (datR P.d yK),.slice p6 ywait.length c6,.bool yrcvd,int yarr,.bool ykn,int yknAt]) rfl).rd
 cases yrcvd with
 | true =>
  have hB:dlvB P ⟨ydat,yrep,yent,ydis,yout0,yout1,ynow,ysnd,yK,ywait,true,yarr,ykn,yknAt⟩=⟨ydat,yrep,yent,ydis,yout0,yout1,ynow,ysnd,yK,ywait,true,yarr,ykn,yknAt⟩:=if_neg (fun h=>by cases h.1)
  rw [hB];refine Ab5 ?_;refine Ad0 ?_;refine BE ?_;refine Acf ?_;refine Aa4 ?_;refine BH ?_;refine CR ?_;exact BF (⟨F,G,O,p0,p1,p2,p3,p4,p5,p6,c0,c1,c2,c3,c4,c5,c6⟩,σ4) hMA covZ selZ
 | false =>
  refine Ab5 ?_;refine Ad0 ?_;refine Ada ?_;refine Abc ?_;refine AQ ?_;refine AT hco rfl rfl rdZ rfl rfl ?_;rintro _ rfl
  by_cases hw:yK=[((0:Int),(P.d.length:Int))]
  ·have hB:dlvB P ⟨ydat,yrep,yent,ydis,yout0,yout1,ynow,ysnd,yK,ywait,false,yarr,ykn,yknAt⟩=⟨ydat,yrep,yent,ydis,yout0,yout1,ynow,ysnd,yK,ywait,true,ynow,ykn,yknAt⟩:=if_pos ⟨rfl,hw⟩
   rw [hB,decide_eq_true hw];refine Abk ?_;refine AA ?_;refine Abq ?_;refine Abh ?_;refine Abc ?_;refine BC ?_; rintro _ _ ⟨rfl,rfl⟩;refine Abc ?_;refine BC ?_; rintro _ _ ⟨rfl,rfl⟩;refine AE ?_;refine BH ?_;refine CR ?_;exact BF (⟨F,G,O,p0,p1,p2,p3,p4,p5,p6,c0,c1,c2,c3,c4,c5,c6⟩,σ4) (MOK.fin hMA true ynow) covZ selZ
  ·have hB:dlvB P ⟨ydat,yrep,yent,ydis,yout0,yout1,ynow,ysnd,yK,ywait,false,yarr,ykn,yknAt⟩=⟨ydat,yrep,yent,ydis,yout0,yout1,ynow,ysnd,yK,ywait,false,yarr,ykn,yknAt⟩:=if_neg (fun h=>hw h.2)
   rw [hB,decide_eq_false hw];refine AV ?_;refine Aag ?_;refine BH ?_;refine CR ?_;exact BF (⟨F,G,O,p0,p1,p2,p3,p4,p5,p6,c0,c1,c2,c3,c4,c5,c6⟩,σ4) hMA covZ selZ
theorem hearM_1 {P:Par} {s:Sd} {t sr:Int} {C:Iv} (h:s.st≠1∨sr≠s.sr):hearM P s t sr C=(s,[]):=if_pos h
theorem hearM_2 {P:Par} {s:Sd} {t sr:Int} {C:Iv} (h1:s.st=1) (h2:sr=s.sr) (hU:unionI s.K C=[((0:Int),(P.d.length:Int))]):hearM P s t sr C=({ s with due:=0,st:=2,K:=unionI s.K C },[]):=
 (if_neg (fun h=>h.elim (fun h=>h h1) (fun h=>h h2))).trans (if_pos hU)
theorem hearM_n {P:Par} {s:Sd} {t sr:Int} {C:Iv} (h1:s.st=1) (h2:sr=s.sr) (hU:unionI s.K C≠[((0:Int),(P.d.length:Int))]):hearM P s t sr C=sendM P { s with K:=unionI s.K C } t (s.sr+1) (bat (s.sr+1) (pcsAll (missI P.d.length (unionI s.K C)))):=
 (if_neg (fun h=>h.elim (fun h=>h h1) (fun h=>h h2))).trans (if_neg hU)
theorem hearM_3 {P:Par} {s:Sd} {t sr:Int} {C:Iv} (h1:s.st=1) (h2:sr=s.sr) (hU:unionI s.K C≠[((0:Int),(P.d.length:Int))]) (hE:P.e<endG P.c.r t (bat (s.sr+1) (pcsAll (missI P.d.length (unionI s.K C))))):hearM P s t sr C=({ s with due:=0,st:=3,K:=unionI s.K C },[]):=
 (hearM_n h1 h2 hU).trans (if_pos hE)
theorem hearM_4 {P:Par} {s:Sd} {t sr:Int} {C:Iv} (h1:s.st=1) (h2:sr=s.sr) (hU:unionI s.K C≠[((0:Int),(P.d.length:Int))]) (hE:endG P.c.r t (bat (s.sr+1) (pcsAll (missI P.d.length (unionI s.K C))))≤P.e):hearM P s t sr C=(⟨endG P.c.r t (bat (s.sr+1) (pcsAll (missI P.d.length (unionI s.K C)))),s.sr+1,endG P.c.r t (bat (s.sr+1) (pcsAll (missI P.d.length (unionI s.K C))))+2*P.c.g+1,1,unionI s.K C⟩,timed P.c.r t (bat (s.sr+1) (pcsAll (missI P.d.length (unionI s.K C))))):=
 (hearM_n h1 h2 hU).trans (if_neg (by omega))
theorem trHearS_spec {ρ ρ2:PH} {P:Par} {t0 t sr:Int} {s:Sd} {K C:Iv} {p p2:Option Addr} {k k2:Nat} (hP:okP P t0) (hs:SdOK P K s) (hv:SpAt ρ (.slice p s.K.length k) s.K) (hv2:SpAt ρ2 (.slice p2 C.length k2) C) (hC:InI P.d.length C) (hsr:1≤sr∧sr≤1099511627776) (ht:s.busy≤t∧t≤2199023255552) :
    Eng.Spec Tryz.prog (fv 180) [.agg #[int P.c.f,int P.c.t,int P.c.s,int P.c.e,int P.c.r,int P.c.g,int P.c.l,int 0,str P.d,int P.e,int s.busy,int s.sr,.slice p s.K.length k,int s.due,int s.st],int t,.agg #[int 2,int 0,int sr,int 0,int (P.d.length:Int),.bool false,str [],.slice p2 C.length k2]] [ρ,ρ2] [] (fun r H'=>∃ p3 c3 p4 c4,r=.tuple #[.agg #[int P.c.f,int P.c.t,int P.c.s,int P.c.e,int P.c.r,int P.c.g,int P.c.l,int 0,str P.d,int P.e,int (hearM P s t sr C).1.busy,int (hearM P s t sr C).1.sr,.slice p3 (hearM P s t sr C).1.K.length c3,int (hearM P s t sr C).1.due,int (hearM P s t sr C).1.st],.slice p4 (hearM P s t sr C).2.length c4,int 0] ∧
      ((p3=p∧c3=k∧(hearM P s t sr C).1.K=s.K∧p4=none∧c4=0∧(hearM P s t sr C).2=[]∧H'=[]) ∨
       (∃ σ,OwnS 77 2 (.slice p3 (hearM P s t sr C).1.K.length c3) (hearM P s t sr C).1.K.length ((hearM P s t sr C).1.K.flatMap encS) σ∧p4=none∧c4=0∧(hearM P s t sr C).2=[]∧H'=[σ]) ∨
       (∃ σ4 σ,OwnS 77 2 (.slice p3 (hearM P s t sr C).1.K.length c3) (hearM P s t sr C).1.K.length ((hearM P s t sr C).1.K.flatMap encS) σ∧OwnS 56 9 (.slice p4 (hearM P s t sr C).2.length c4) (hearM P s t sr C).2.length ((hearM P s t sr C).2.flatMap (encO 0 P.d)) σ4∧H'=[σ4,σ]))):=by
  have hcr:=chkCt_rg hP.hc
  have h2:=hP.h2
  have hb:=hs.b
  have hr:=hs.r
  refine (sndHear_spec (e:=P.e) (sr':=sr) (t0:=t) hv hv2 hP.hc (show (0:Int)≤0∧(0:Int)≤1099511627776 by omega) hP.n1 hP.n2 ⟨hb.1,hb.2,h2⟩ ⟨hr.1,by omega⟩ hs.k hC hs.st hsr ht).mono ?_
  rintro r H' (⟨h1,⟨hs,rfl,rfl⟩|⟨hs,hw,p3,c3,σ,hO,rfl,rfl⟩|⟨hs,hw,hlate,p3,c3,σ,hO,rfl,rfl⟩|⟨hs,hw,hok,p3,c3,σ,p4,c4,σ4,hO,hO4,rfl,rfl⟩⟩|⟨h1,rfl,rfl⟩)
  · rw [hearM_1 (.inr hs)]
    exact ⟨p,k,none,0,rfl,.inl ⟨rfl,rfl,rfl,rfl,rfl,rfl,rfl⟩⟩
  · rw [hearM_2 h1 hs hw]
    exact ⟨p3,c3,none,0,rfl,.inr (.inl ⟨σ,hO,rfl,rfl,rfl,rfl⟩)⟩
  · rw [hearM_3 h1 hs hw hlate]
    exact ⟨p3,c3,none,0,rfl,.inr (.inl ⟨σ,hO,rfl,rfl,rfl,rfl⟩)⟩
  · rw [hearM_4 h1 hs hw hok]
    refine ⟨p3,c3,p4,c4,?_,.inr (.inr ⟨σ4,σ,hO,hO4,rfl⟩)⟩
    dsimp only
    rw [timed_len]
  · rw [hearM_1 (.inl h1)]
    exact ⟨p,k,none,0,rfl,.inl ⟨rfl,rfl,rfl,rfl,rfl,rfl,rfl⟩⟩
def rpO (d:List UInt8):Option (Int × Iv × Option Addr × Nat)→List Value
 | none=>zSeg
 | some x=>encRp 0 x.1 d.length (.slice x.2.2.1 x.2.1.length x.2.2.2)
theorem rpO_len (d:List UInt8) (o:Option (Int × Iv × Option Addr × Nat)):(rpO d o).length=8:=by cases o <;> rfl
theorem rpO_ones (d:List UInt8) (o:Option (Int × Iv × Option Addr × Nat)):∀ v∈rpO d o,v.oneCell'=true:=by
 cases o with
 | none =>
  intro v hv
  simp only [rpO,zSeg,List.mem_cons,List.not_mem_nil,or_false] at hv
  rcases hv with rfl|rfl|rfl|rfl|rfl|rfl|rfl|rfl <;> rfl
 | some x =>
  intro v hv
  simp only [rpO,encRp,List.mem_cons,List.not_mem_nil,or_false] at hv
  rcases hv with rfl|rfl|rfl|rfl|rfl|rfl|rfl|rfl <;> rfl
def LsnI (P:Par) (t0 ld lt n:Int) (T:Ss) (s1:Ss) (σf:PH):Option (Int × Iv × Option Addr × Nat)→Prop
 | none=>s1=T
 | some x=>SpAt σf (.slice x.2.2.1 x.2.1.length x.2.2.2) x.2.1∧InI P.d.length x.2.1∧subI x.2.1 s1.K∧(1≤x.1∧x.1≤1099511627776)∧SI P t0 s1 ld n (n+1) lt∧SI P t0 (lsn1 P s1 x.1 x.2.1) ld n (n+1) lt∧s1.now=n∧(lsn1 P s1 x.1 x.2.1).now=n∧T=lsnM P (lsn1 P s1 x.1 x.2.1).rep.fr.length (lsn1 P s1 x.1 x.2.1)∧n≤2199023255552
theorem trGetO1_spec {P:Par} {t0:Int} {s T:Ss} {pp pq:Option Addr} {cp cq:Nat} {M:Mm} {σ:S6} {ld lt n:Int} (hP:okP P t0) (hS:SI P t0 s ld n (n+1) lt) (hnn:s.now=n) (hn:0≤n) (hlt:lt≤n+1) (hT:T=lsnM P s.rep.fr.length s) (hM:MOK P s M σ) (bs:Nat) :
  Eng.Spec Tryz.prog (fv 177) [.pointer (some ⟨bs,0,none⟩),.pointer (some ⟨bs,4,none⟩)] [] [sesB pp pq cp cq P s M bs,σ.b] (fun r H'=>∃ o s1 M1 ρ1,LsnI P t0 ld lt n T s1 σ.f o∧MOK P s1 M1 { σ with b:=ρ1 }∧(o.isSome=true→s1.rep.fr.length+1=s.rep.fr.length)∧r=.tuple #[.agg (rpO P.d o).toArray,.bool o.isSome]∧H'=[sesB pp pq cp cq P s1 M1 bs,ρ1]):=by
 subst hnn;refine (trGet1_spec hP hS hn hlt hM bs).mono ?_;rintro r H' (⟨h1,h2,h3⟩|⟨sr,C,p,c,l,M',ρ',h1,h2,h3,h4,h5,h6,h7,h8,h9,h10,h11,h12,h13⟩)
 ·exact ⟨none,s,M,σ.b,(h1 _).symm.trans hT.symm,hM,(fun h=>by cases h),h2,h3⟩
 ·exact ⟨some (sr,C,p,c),{ s with rep:={ s.rep with fr:=l } },M',ρ',⟨h2,h3,h4,h5,h7,h8,rfl,h9,hT.trans h10,h11⟩,h12,fun _=>h6.symm,h1,h13⟩
def lsnB (s:Ss):Ss:=if s.kn=false∧s.snd.st=2 then { s with kn:=true,knAt:=s.now } else s
theorem lsn1_go {P:Par} {s:Ss} {sr:Int} {C:Iv} (h:¬ s.now<s.snd.busy) (hw:s.wait=[]):lsn1 P s sr C=lsnB { s with snd:=(hearM P s.snd s.now sr C).1,wait:=(hearM P s.snd s.now sr C).2 }:=by
 have e:lsn1 P s sr C=lsnB { s with snd:=(hearM P s.snd s.now sr C).1,wait:=s.wait ++ (hearM P s.snd s.now sr C).2 }:=if_neg h
 rw [e,hw,List.nil_append]
theorem lsn1_busy {P:Par} {s:Ss} {sr:Int} {C:Iv} (h:s.now<s.snd.busy):lsn1 P s sr C=s:=if_pos h
theorem MOK.kno {P:Par} {s:Ss} {M:Mm} {σ:S6} (h:MOK P s M σ) (r:Bool) (a:Int):MOK P { s with kn:=r,knAt:=a } M σ:=⟨h.d,h.dm,h.d1,h.r,h.rm,h.r1,h.o0,h.o1,h.om,h.o2,h.w,h.a,h.k⟩
theorem MOK.lsn {P:Par} {s:Ss} {M:Mm} {σ:S6} (h:MOK P s M σ) {γ ρw:PH} {S2:Sd} {W:List (Int × Sg)} {p3 pz:Option Addr} {c3 cz:Nat} (g:PH.sub σ.f γ) (hk:SpAt γ (.slice p3 S2.K.length c3) S2.K) (hw:OwnQ 56 9 (.slice pz W.length cz) W.length (W.flatMap (encO 0 P.d)) ρw) :
  MOK P { s with snd:=S2,wait:=W } { M with p4:=p3,c4:=c3,p6:=pz,c6:=cz } { σ with e:=ρw,f:=γ }:=
 ⟨h.d,h.dm,h.d1,h.r,h.rm,fun f hf=>(by obtain ⟨sr,C,p,c,k1,k2,k3⟩:=h.r1 f hf; exact ⟨sr,C,p,c,k1,k2,k3.mono g⟩),h.o0,h.o1,h.om,fun y hy=>(by obtain ⟨p,c,k1,k2⟩:=h.o2 y hy; exact ⟨p,c,k1,k2.mono g⟩),hw,hk,h.k.mono g⟩
structure Ll where
 b:Nat
 p3:Option Addr
 c3:Nat
 k:PH
 p4:Option Addr
 c4:Nat
 r:PH
theorem trListen_spec {P:Par} {t0:Int} {s:Ss} {pp pq:Option Addr} {cp cq:Nat} {M:Mm} {σ:S6} {ld lt n:Int} (hP:okP P t0) (hS:SI P t0 s ld n (n+1) lt) (hnn:s.now=n) (hn:0≤n) (hlt:lt≤n+1) (hM:MOK P s M σ) (bs:Nat) :
  Eng.Spec Tryz.prog (fv 141) [.pointer (some ⟨bs,0,none⟩)] [] [sesB pp pq cp cq P s M bs,σ.a,σ.b,σ.c,σ.d,σ.e,σ.f] (fun r H'=>r=.tuple #[]∧∃ M' σ',MOK P (lsnM P s.rep.fr.length s) M' σ'∧H'=[sesB pp pq cp cq P (lsnM P s.rep.fr.length s) M' bs,σ'.a,σ'.b,σ'.c,σ'.d,σ'.e,σ'.f]):=by
 have hn1:=hP.n1
 have hn2:=hP.n2
 have hcr:=chkCt_rg hP.hc
 have h2:=hP.h2
 have hg0:=trGetO1_spec (pp:=pp) (pq:=pq) (cp:=cp) (cq:=cq) hP hS hnn hn hlt rfl hM bs
 generalize lsnM P s.rep.fr.length s=T at hg0 ⊢
 refine spec_in (cap:=[]) Tryz.func141 rfl rfl Tryz.ntmps141 rfl envZ (fun N β=>?_)
 refine Adn ?_;refine AG ?_;refine BI hg0 rfl rfl takesZ rdZ rfl rfl ?_;rintro _ _ ⟨o,s1,M1,ρ1,hI,hM1,_,rfl,rfl⟩;refine Acq ?_;refine A4 ?_; rintro _ _ ⟨b,rfl,rfl⟩
 revert b; intro b2
 refine B4 (BA (vs:=rpO P.d o) rfl rfl takeZ (rpO_ones _ _) (by rw [rpO_len]; rfl) (by rw [rpO_len]; rfl)) rfl rfl ?_
 rintro _ _ ⟨rfl,rfl⟩;refine Aaa ?_;refine A5 ?_
 refine BU [0] (X:=Ss × Mm × S6 × Option (Int × Iv × Option Addr × Nat) × Nat) (s1,M1,{ σ with b:=ρ1 },o,b2) (fun z=>LsnI P t0 ld lt n T z.1 z.2.2.1.f z.2.2.2.1∧MOK P z.1 z.2.1 z.2.2.1) (fun z=>[(2,.pointer (some ⟨z.2.2.2.2,0,none⟩)),(3,.bool z.2.2.2.1.isSome)]) (fun z=>[sesB pp pq cp cq P z.1 z.2.1 bs,z.2.2.1.a,z.2.2.1.b,z.2.2.1.c,z.2.2.1.d,z.2.2.1.e,z.2.2.1.f,sng z.2.2.2.2 (.cells (rpO P.d z.2.2.2.1).toArray 54 (0,0))]) (fun z=>if z.2.2.2.1.isSome=true then z.1.rep.fr.length+1 else 0) pickZ ⟨hI,hM1⟩ covZ selZ ?_
 rintro ⟨s2,M2,σ2,o2,b3⟩ ⟨hI2,hM2⟩
 dsimp only at hI2 hM2 ⊢
 rcases o2 with _|⟨sr,C,pc,kc⟩
 ·obtain rfl:s2=T:=hI2
  refine Aah ?_;refine Adh ?_;exact BV (H':=[sesB pp pq cp cq P s2 M2 bs,σ2.a,σ2.b,σ2.c,σ2.d,σ2.e,σ2.f]) (res0 rfl) rsubZ selZ ⟨rfl,M2,σ2,hM2,rfl⟩
 obtain ⟨hCa,hC,hCs,hsr,hS2,hS3,hn2',hn3,hT,hb⟩:=hI2
 dsimp only at hCa hC hCs hsr hS3 hn3 hT
 repeat refine AD ?_
 refine AA ?_;refine Aav ?_
 repeat refine AD ?_
 refine Aa1 ?_
 repeat refine AD ?_
 refine DG (X:=Mm × S6) [0,2] (fun z=>MOK P (lsn1 P s2 sr C) z.1 z.2) (fun _=>[]) (fun z=>[sesB pp pq cp cq P (lsn1 P s2 sr C) z.1 bs,z.2.a,z.2.b,z.2.c,z.2.d,z.2.e,z.2.f,sng b3 (.cells (rpO P.d (some (sr,C,pc,kc))).toArray 54 (0,0))]) pickZ ?_ ?_
 rotate_left
 ·rintro ⟨M3,σ3⟩ hM3
  dsimp only at hM3 ⊢
  have hrep3:=lsn1_rep P s2 sr C
  have hg3:=trGetO1_spec (pp:=pp) (pq:=pq) (cp:=cp) (cq:=cq) hP hS3 hn3 hn hlt hT hM3 bs
  generalize lsn1 P s2 sr C=s3 at *
  refine Abz ?_;refine AE ?_;refine AA ?_;refine A4 ?_; rintro _ _ ⟨b,rfl,rfl⟩;refine AY ?_; rintro _ _ ⟨rfl,rfl⟩;refine AE ?_;refine Acp ?_;refine Abc ?_;refine AG ?_
  revert b; intro b4
  refine BI hg3 rfl rfl takesZ rdZ rfl rfl ?_;rintro _ _ ⟨o4,s4,M4,ρ4,hI4,hM4,hlen4,rfl,rfl⟩;refine Acq ?_
  refine B4 (BA (vs:=rpO P.d o4) rfl rfl takeZ (rpO_ones _ _) (by rw [rpO_len]; rfl) (by rw [rpO_len]; rfl)) rfl rfl ?_
  rintro _ _ ⟨rfl,rfl⟩;refine Aaa ?_
  exact BG (s4,M4,{ σ3 with b:=ρ4 },o4,b4) ⟨hI4,hM4⟩ (by
   dsimp only
   rw [if_pos (show (some (sr,C,pc,kc)).isSome=true from rfl)]
   split
   ·rename_i ho
    have:=hlen4 ho
    rw [hrep3] at this;omega
   ·omega) covZ selZ
 obtain ⟨F,G,O,p0,p1,p2,p3',p4',p5,p6,c0,c1,c2,c3',c4',c5,c6⟩:=M2
 unfold sesB
 dsimp only
 refine A5 ?_
 repeat refine AD ?_
 by_cases hbz:s2.now<s2.snd.busy
 ·rw [lsn1_busy hbz]
  refine BB P7Z [] rfl (by kernel_rfl) Sel.nil ?_
  refine Aa0 ?_;refine Acl ?_;refine Acw ?_;refine F3 ?_;refine Aci ?_;refine BR rfl ?_;exact BF (⟨F,G,O,p0,p1,p2,p3',p4',p5,p6,c0,c1,c2,c3',c4',c5,c6⟩,σ2) hM2 covZ selZ
 have hwn:s2.wait=[]:=wait_nil (s:=s2) (by rw [hn2']; exact hS2) (by omega)
 have hgo:=lsn1_go (P:=P) (sr:=sr) (C:=C) hbz hwn
 have hhear:=trHearS_spec (t:=s2.now) hP hS2.sn hM2.a hCa hC hsr ⟨by omega,by omega⟩
 have hhl:=hearM_len hP (t:=s2.now) (sr:=sr) hS2.sn.k hC
 have c16:RdN (sng bs (.cells #[int P.c.g,.slice p0 F.length c0,int s2.dat.sent,int s2.dat.lost,int P.c.g,.slice p1 G.length c1,int s2.rep.sent,int s2.rep.lost,.slice pp P.picks.length cp,int P.limit,.slice pq P.dark.length cq,int s2.ent,int s2.dis,.slice p2 s2.out0.length c2,.slice p3' O.length c3',int s2.now,int P.c.f,int P.c.t,int P.c.s,int P.c.e,int P.c.r,int P.c.g,int P.c.l,int 0,str P.d,int P.e,int s2.snd.busy,int s2.snd.sr,.slice p4' s2.snd.K.length c4',int s2.snd.due,int s2.snd.st,int 0,int (totR P.d s2.K),.slice p5 s2.K.length c5,str (datR P.d s2.K),.slice p6 s2.wait.length c6,.bool s2.rcvd,int s2.arr,.bool s2.kn,int s2.knAt] 101 (0,0))) bs 16 [int P.c.f,int P.c.t,int P.c.s,int P.c.e,int P.c.r,int P.c.g,int P.c.l,int 0,str P.d,int P.e,int s2.snd.busy,int s2.snd.sr,.slice p4' s2.snd.K.length c4',int s2.snd.due,int s2.snd.st]:=(rdP_sng (xs:=[int P.c.g,.slice p0 F.length c0,int s2.dat.sent,int s2.dat.lost,int P.c.g,.slice p1 G.length c1,int s2.rep.sent,int s2.rep.lost,.slice pp P.picks.length cp,int P.limit,.slice pq P.dark.length cq,int s2.ent,int s2.dis,.slice p2 s2.out0.length c2,.slice p3' O.length c3',int s2.now,int P.c.f,int P.c.t,int P.c.s,int P.c.e,int P.c.r,int P.c.g,int P.c.l,int 0,str P.d,int P.e,int s2.snd.busy,int s2.snd.sr,.slice p4' s2.snd.K.length c4',int s2.snd.due,int s2.snd.st,int 0,int (totR P.d s2.K),.slice p5 s2.K.length c5,str (datR P.d s2.K),.slice p6 s2.wait.length c6,.bool s2.rcvd,int s2.arr,.bool s2.kn,int s2.knAt]) rfl).rd
 have cx:RdN (sng b3 (.cells (rpO P.d (some (sr,C,pc,kc))).toArray 54 (0,0))) b3 0 [int 2,int 0,int sr,int 0,int (P.d.length:Int),.bool false,str [],.slice pc C.length kc]:=rdN_sng (vs:=[int 2,int 0,int sr,int 0,int (P.d.length:Int),.bool false,str [],.slice pc C.length kc])
 refine BB P7Z [] rfl (by kernel_rfl) Sel.nil ?_
 refine Aa0 ?_;refine Acl ?_;refine Acw ?_;refine DR ?_;refine A8 ?_
 repeat refine AE ?_
 repeat refine AD ?_
 refine Aaf ?_
 repeat refine AD ?_
 refine DG (X:=Ll) [0,2] (fun z=>((z.p3=p4'∧z.c3=c4'∧(hearM P s2.snd s2.now sr C).1.K=s2.snd.K∧z.k=emp)∨OwnS 77 2 (.slice z.p3 (hearM P s2.snd s2.now sr C).1.K.length z.c3) (hearM P s2.snd s2.now sr C).1.K.length ((hearM P s2.snd s2.now sr C).1.K.flatMap encS) z.k)∧OwnS 56 9 (.slice z.p4 (hearM P s2.snd s2.now sr C).2.length z.c4) (hearM P s2.snd s2.now sr C).2.length ((hearM P s2.snd s2.now sr C).2.flatMap (encO 0 P.d)) z.r) (fun z=>[(4,.pointer (some ⟨z.b,0,none⟩)),(5,.slice z.p4 (hearM P s2.snd s2.now sr C).2.length z.c4),(6,int 0)]) (fun z=>[sng z.b (.cells #[int P.c.f,int P.c.t,int P.c.s,int P.c.e,int P.c.r,int P.c.g,int P.c.l,int 0,str P.d,int P.e,int (hearM P s2.snd s2.now sr C).1.busy,int (hearM P s2.snd s2.now sr C).1.sr,.slice z.p3 (hearM P s2.snd s2.now sr C).1.K.length z.c3,int (hearM P s2.snd s2.now sr C).1.due,int (hearM P s2.snd s2.now sr C).1.st] 97 (0,0)),sng bs (.cells #[int P.c.g,.slice p0 F.length c0,int s2.dat.sent,int s2.dat.lost,int P.c.g,.slice p1 G.length c1,int s2.rep.sent,int s2.rep.lost,.slice pp P.picks.length cp,int P.limit,.slice pq P.dark.length cq,int s2.ent,int s2.dis,.slice p2 s2.out0.length c2,.slice p3' O.length c3',int s2.now,int P.c.f,int P.c.t,int P.c.s,int P.c.e,int P.c.r,int P.c.g,int P.c.l,int 0,str P.d,int P.e,int s2.snd.busy,int s2.snd.sr,.slice p4' s2.snd.K.length c4',int s2.snd.due,int s2.snd.st,int 0,int (totR P.d s2.K),.slice p5 s2.K.length c5,str (datR P.d s2.K),.slice p6 s2.wait.length c6,.bool s2.rcvd,int s2.arr,.bool s2.kn,int s2.knAt] 101 (0,0)),σ2.a,σ2.b,σ2.c,σ2.d,σ2.e,σ2.f,z.k,z.r,sng b3 (.cells (rpO P.d (some (sr,C,pc,kc))).toArray 54 (0,0))]) pickZ ?_ ?_
 ·refine BB (.q 0 (.q 1 (.q 2 (.q 3 (.q 4 (.q 5 (.q 6 (.q 7 (.q 8 (.l2 9 .e (.q 10 (.q 11 (.p 12 (.p 13 (.l 14 .e (.l 15 .b (.q 16 (.q 17 .nil)))))))) 14 .e (.l 9 .e (.q 10 (.q 11 (.p 12 (.p 13 (.l 15 .b (.q 16 (.q 17 .nil)))))))))))))))))) [] rfl (by kernel_rfl) Sel.nil ?_
  repeat' (first
   | (refine AL ?_)
   | (refine AX ?_)
   | (refine A2 ?_)
   | (refine A3 ?_)
   | (refine BP ?_)
   | (refine C4 ?_ ?_)
   | (refine CC ?_; rintro _ _ ⟨b,rfl,rfl⟩)
   | fail)
  ·refine DN rfl hhear rfl rfl rdZ rfl rfl ?_
   rintro _ _ ⟨p3,c3,p4,c4,rfl,⟨hp3,hc3,hKs,rfl,rfl,hW,rfl⟩|⟨σk,hO,rfl,rfl,hW,rfl⟩|⟨σ4,σk,hO,hO4,rfl⟩⟩
   ·refine AL ?_
    refine Acr ?_;refine B5 ?_; rintro _ _ ⟨b,rfl,rfl⟩
    revert b; intro b4
    skip
    refine BQ ?_;refine' CO rfl _ rfl rfl _ _
    rotate_left
    ·apply BA; exact rfl; exact rfl; exact takeZ; exact oneZ; exact rfl; exact rfl
    ·rintro _ _ ⟨_,rfl⟩ w hw; exact hw.sel Sel.nil
    rintro _ _ ⟨rfl,rfl⟩;refine Abo ?_
    skip
    refine CG ?_;refine CG ?_
    exact BF ⟨b4,p3,c3,emp,none,0,emp⟩ ⟨.inl ⟨hp3,hc3,hKs,rfl⟩,(by rw [hW]; exact OwnS.nil _ _)⟩ covZ selZ
   ·refine AL ?_
    refine Acr ?_;refine B5 ?_; rintro _ _ ⟨b,rfl,rfl⟩
    revert b; intro b4
    skip
    refine BQ ?_;refine' CO rfl _ rfl rfl _ _
    rotate_left
    ·apply BA; exact rfl; exact rfl; exact takeZ; exact oneZ; exact rfl; exact rfl
    ·rintro _ _ ⟨_,rfl⟩ w hw; exact hw.sel Sel.nil
    rintro _ _ ⟨rfl,rfl⟩;refine Abo ?_
    skip
    refine CG ?_
    exact BF ⟨b4,p3,c3,σk,none,0,emp⟩ ⟨.inr hO,(by rw [hW]; exact OwnS.nil _ _)⟩ covZ selZ
   ·refine AL ?_
    refine Acr ?_;refine B5 ?_; rintro _ _ ⟨b,rfl,rfl⟩
    revert b; intro b4
    skip
    refine BQ ?_;refine' CO rfl _ rfl rfl _ _
    rotate_left
    ·apply BA; exact rfl; exact rfl; exact takeZ; exact oneZ; exact rfl; exact rfl
    ·rintro _ _ ⟨_,rfl⟩ w hw; exact hw.sel Sel.nil
    rintro _ _ ⟨rfl,rfl⟩;refine Abo ?_
    skip
    exact BF ⟨b4,p3,c3,σk,p4,c4,σ4⟩ ⟨.inr hO,hO4⟩ covZ selZ
  ·revert b; intro b4
   refine BQ (DN rfl hhear rfl rfl rdZ rfl rfl ?_);rintro _ _ ⟨p3,c3,p4,c4,rfl,⟨hp3,hc3,hKs,rfl,rfl,hW,rfl⟩|⟨σk,hO,rfl,rfl,hW,rfl⟩|⟨σ4,σk,hO,hO4,rfl⟩⟩
   ·refine AL ?_
    refine Acr ?_;refine BQ ?_;refine' CO rfl _ rfl rfl _ _
    rotate_left
    ·apply BA; exact rfl; exact rfl; exact takeZ; exact oneZ; exact rfl; exact rfl
    ·rintro _ _ ⟨_,rfl⟩ w hw; exact hw.sel Sel.nil
    rintro _ _ ⟨rfl,rfl⟩;refine Abo ?_
    skip
    refine CG ?_;refine CG ?_
    exact BF ⟨b4,p3,c3,emp,none,0,emp⟩ ⟨.inl ⟨hp3,hc3,hKs,rfl⟩,(by rw [hW]; exact OwnS.nil _ _)⟩ covZ selZ
   ·refine AL ?_
    refine Acr ?_;refine BQ ?_;refine' CO rfl _ rfl rfl _ _
    rotate_left
    ·apply BA; exact rfl; exact rfl; exact takeZ; exact oneZ; exact rfl; exact rfl
    ·rintro _ _ ⟨_,rfl⟩ w hw; exact hw.sel Sel.nil
    rintro _ _ ⟨rfl,rfl⟩;refine Abo ?_
    skip
    refine CG ?_
    exact BF ⟨b4,p3,c3,σk,none,0,emp⟩ ⟨.inr hO,(by rw [hW]; exact OwnS.nil _ _)⟩ covZ selZ
   ·refine AL ?_
    refine Acr ?_;refine BQ ?_;refine' CO rfl _ rfl rfl _ _
    rotate_left
    ·apply BA; exact rfl; exact rfl; exact takeZ; exact oneZ; exact rfl; exact rfl
    ·rintro _ _ ⟨_,rfl⟩ w hw; exact hw.sel Sel.nil
    rintro _ _ ⟨rfl,rfl⟩;refine Abo ?_
    skip
    exact BF ⟨b4,p3,c3,σk,p4,c4,σ4⟩ ⟨.inr hO,hO4⟩ covZ selZ
 rintro ⟨b4,p3,c3,σk,p4,c4,σ4⟩ ⟨hO,hO4⟩
 dsimp only at hO hO4 ⊢
 refine Ad2 ?_;refine Aab ?_;refine AQ ?_;refine Abc ?_
 refine B4 (C3 (vs:=[int P.c.f,int P.c.t,int P.c.s,int P.c.e,int P.c.r,int P.c.g,int P.c.l,int 0,str P.d,int P.e,int (hearM P s2.snd s2.now sr C).1.busy,int (hearM P s2.snd s2.now sr C).1.sr,.slice p3 (hearM P s2.snd s2.now sr C).1.K.length c3,int (hearM P s2.snd s2.now sr C).1.due,int (hearM P s2.snd s2.now sr C).1.st]) rfl rfl oneZ rfl takeZ (by show 16+15≤40; omega)) rfl rfl ?_
 rintro _ _ ⟨rfl,rfl⟩
 change JK _ _ _ (sng bs (.cells #[int P.c.g,.slice p0 F.length c0,int s2.dat.sent,int s2.dat.lost,int P.c.g,.slice p1 G.length c1,int s2.rep.sent,int s2.rep.lost,.slice pp P.picks.length cp,int P.limit,.slice pq P.dark.length cq,int s2.ent,int s2.dis,.slice p2 s2.out0.length c2,.slice p3' O.length c3',int s2.now,int P.c.f,int P.c.t,int P.c.s,int P.c.e,int P.c.r,int P.c.g,int P.c.l,int 0,str P.d,int P.e,int (hearM P s2.snd s2.now sr C).1.busy,int (hearM P s2.snd s2.now sr C).1.sr,.slice p3 (hearM P s2.snd s2.now sr C).1.K.length c3,int (hearM P s2.snd s2.now sr C).1.due,int (hearM P s2.snd s2.now sr C).1.st,int 0,int (totR P.d s2.K),.slice p5 s2.K.length c5,str (datR P.d s2.K),.slice p6 s2.wait.length c6,.bool s2.rcvd,int s2.arr,.bool s2.kn,int s2.knAt] 101 (0,0))::_) _ _
 refine AE ?_;refine Aar ?_;refine Abh ?_;refine AB ?_
 have hq0:OwnQ 56 9 (.slice p6 s2.wait.length c6) 0 [] σ2.e:=by
  have h:=hM2.w
  dsimp only at h
  rw [hwn] at h ⊢;exact h
 refine BJ (EC (by_:=96) (s:=9) (w0:=.slice p4 (hearM P s2.snd s2.now sr C).2.length c4) (σ:=σ4) (m:=(hearM P s2.snd s2.now sr C).2.length) (news:=(hearM P s2.snd s2.now sr C).2.flatMap (encO 0 P.d)) rfl rfl rfl rfl rfl rfl rfl hq0 takeZ hO4.at (fun b o h=>cellsH h memZ) (fun u hu=>by obtain ⟨y,_,hy⟩:=List.mem_flatMap.1 hu; exact encO_ones 0 P.d y u hy) (by simp only [maxLen]; omega) (by omega)) rfl rfl rfl ?_
 rintro u2 _ ⟨σz,hQ,rfl⟩
 obtain ⟨pz,cz,rfl⟩:=hQ.form
 refine E3 (ρ:=σ2.f) (σ:=σk) takeZ takeZ (fun γ g1 g2=>?_)
 have hKA:SpAt γ (.slice p3 (hearM P s2.snd s2.now sr C).1.K.length c3) (hearM P s2.snd s2.now sr C).1.K:=by
  rcases hO with ⟨rfl,rfl,hKs,_⟩|hO
  ·rw [hKs]
   exact SlE.mono hM2.a g1
  ·exact SlE.mono hO.at g2
 have hMA:=MOK.lsn (S2:=(hearM P s2.snd s2.now sr C).1) (W:=(hearM P s2.snd s2.now sr C).2) hM2 g1 hKA hQ
 rw [hgo];clear hgo hhear hhl c16 cx hO hO4 hKA hQ hq0 hS3 hn3 hT hM2
 generalize (hearM P s2.snd s2.now sr C)=r at *
 obtain ⟨r1,r2⟩:=r
 obtain ⟨ydat,yrep,yent,ydis,yout0,yout1,ynow,ysnd,yK,ywait,yrcvd,yarr,ykn,yknAt⟩:=s2
 dsimp only at hMA ⊢
 cases ykn with
 | true =>
  have hB:lsnB ⟨ydat,yrep,yent,ydis,yout0,yout1,ynow,r1,yK,r2,yrcvd,yarr,true,yknAt⟩=⟨ydat,yrep,yent,ydis,yout0,yout1,ynow,r1,yK,r2,yrcvd,yarr,true,yknAt⟩:=if_neg (fun h=>by cases h.1)
  rw [hB];refine Abc ?_;refine BC ?_; rintro _ _ ⟨rfl,rfl⟩;refine Abt ?_;refine Abh ?_;refine BE ?_;refine Adj ?_;refine Aa4 ?_;refine BH ?_;exact BF (⟨F,G,O,p0,p1,p2,p3',p3,p5,pz,c0,c1,c2,c3',c3,c5,cz⟩,⟨σ2.a,σ2.b,σ2.c,σ2.d,σz,γ⟩) hMA covZ selZ
 | false =>
  by_cases hst:r1.st=2
  ·have hB:lsnB ⟨ydat,yrep,yent,ydis,yout0,yout1,ynow,r1,yK,r2,yrcvd,yarr,false,yknAt⟩=⟨ydat,yrep,yent,ydis,yout0,yout1,ynow,r1,yK,r2,yrcvd,yarr,true,ynow⟩:=if_pos ⟨rfl,hst⟩
   rw [hB];refine Abc ?_;refine BC ?_; rintro _ _ ⟨rfl,rfl⟩;refine Abt ?_;refine Abh ?_;refine Ada ?_;refine Abc ?_;refine DQ ?_;refine AF ?_;refine CN ?_;refine Abk ?_;refine AA ?_;refine Abq ?_;refine Abh ?_;refine Abc ?_;refine BC ?_; rintro _ _ ⟨rfl,rfl⟩;refine Abc ?_;refine BC ?_; rintro _ _ ⟨rfl,rfl⟩;refine AE ?_;refine BH ?_;exact BF (⟨F,G,O,p0,p1,p2,p3',p3,p5,pz,c0,c1,c2,c3',c3,c5,cz⟩,⟨σ2.a,σ2.b,σ2.c,σ2.d,σz,γ⟩) (MOK.kno hMA true ynow) covZ selZ
  ·have hB:lsnB ⟨ydat,yrep,yent,ydis,yout0,yout1,ynow,r1,yK,r2,yrcvd,yarr,false,yknAt⟩=⟨ydat,yrep,yent,ydis,yout0,yout1,ynow,r1,yK,r2,yrcvd,yarr,false,yknAt⟩:=if_neg (fun h=>hst h.2)
   rw [hB];refine Abc ?_;refine BC ?_; rintro _ _ ⟨rfl,rfl⟩;refine Abt ?_;refine Abh ?_;refine Ada ?_;refine Abc ?_;refine DQ ?_;refine AF ?_;refine B9 ?_;refine AV ?_;refine Aag ?_;refine BH ?_;exact BF (⟨F,G,O,p0,p1,p2,p3',p3,p5,pz,c0,c1,c2,c3',c3,c5,cz⟩,⟨σ2.a,σ2.b,σ2.c,σ2.d,σz,γ⟩) hMA covZ selZ
end Go.Proofs.YtekcielcagdcmaaGreatDoor
namespace Go.Eng
variable {C:Cx} {D:List Deferred} {R H:List PH} {L:Env} {K:List It}
section
variable {dst:Option Tmp} {ty:TypeId} {pos:String} {aft:Array Edge} {g:Option (Nat × Bool)}
theorem FQ {x y:Operand} {t e:TypeId} {cs:Array Value} {k:IntKind} {i n:Nat} {v:Value} (h:evalE L x=some (.agg cs)) (hy:evalE L y=some (.int k (i:Int))) (ht:C.P.underlying t=some (.array n e)) (ha:aggP C.P e=some false) (hs:szP C.P e=some 1) (hi:i<n) (hv:cs[i]?=some v) :
    Quiet C R H L ⟨dst,.index t x y,ty,pos,aft,g⟩ v:=
  ⟨by intro c; simp,fun a w hx _=>by
    have e1:=hx x (by simp [Op.operands]) _ h
    have e2:=hx y (by simp [Op.operands]) _ hy
    simp [execOp,e1,e2,Instr.index,asIntOf,run_underlying ht,hi,run_sizeOf hs,part,run_isAgg ha,hv]⟩
end
theorem Upd.last {A:List PH} {σ:PH} {w w':World} (u:Upd H (A ++ [σ]) w w'):Upd H (A ++ [emp]) w w' where
  size:=u.size
  keep:=u.keep
  own:=fun ρ hρ=>by
    rcases List.mem_append.1 hρ with h|h
    · exact u.own ρ (by simp [h])
    · simp at h
      subst h
      intro b o hb
      simp [emp] at hb
  hd:=by
    obtain ⟨h1,_,_⟩:=List.pairwise_append.1 u.hd
    exact List.pairwise_append.2 ⟨h1,List.pairwise_singleton _ _,fun _ _ _ h=>by simp at h; subst h; exact fun _=>.inr rfl⟩
  new:=fun ρ hρ b hb=>by
    rcases List.mem_append.1 hρ with h|h
    · exact u.new ρ (by simp [h]) b hb
    · simp at h
      subst h
      simp [emp] at hb
theorem Spec.last {P:Program} {f:Value} {args:List Value} {R H:List PH} {post post':Value→List PH→Prop} (h:Spec P f args R H post) (hq:∀ v H1,post v H1→∃ A σ,H1=A ++ [σ]∧post' v (A ++ [emp])):Spec P f args R H post':=by
  intro N w hs
  refine (h N w hs).mono ?_;rintro v w' ⟨H1,h1,hu⟩
  obtain ⟨A,σ,rfl,h3⟩:=hq v H1 h1
  exact ⟨_,h3,hu.last⟩
end Go.Eng
namespace Go.Proofs.YtekcielcagdcmaaGreatDoor
open Go.Eng Go.Step
set_option maxRecDepth 100000
set_option maxHeartbeats 64000000
theorem trNextM_spec {P:Par} {t0 u:Int} {s:Ss} {pp pq:Option Addr} {cp cq:Nat} {M:Mm} {σ:S6} (hP:okP P t0) (hI:RI P t0 s u) (hM:MOK P s M σ) (bs:Nat) :
  Eng.Spec Tryz.prog (fv 93) [.pointer (some ⟨bs,0,none⟩)] [] [sesB pp pq cp cq P s M bs,σ.a,σ.b,σ.e] (fun r H'=>r=.tuple #[int ((nextM (clrM s)).getD 0),.bool (nextM (clrM s)).isSome]∧∃ M' ρe,MOK P (clrM s) M' { σ with e:=ρe }∧H'=[sesB pp pq cp cq P (clrM s) M' bs,σ.a,σ.b,ρe]):=by
 have hcr:=chkCt_rg hP.hc
 have hcs:=chkCt_se hP.hc
 have h0:=hP.h0
 have h2:=hP.h2
 have hS:=hI.si
 have hen:=hS.en
 have hl0:=hS.dat.lst
 have hl1:=hS.rep.lst
 have hu:=hI.u0
 have hwl:=hI.wl
 have h:=trNext_spec (y13:=.slice M.p2 s.out0.length M.c2) (y14:=.slice M.p3 M.O.length M.c3) (y15:=int s.now) (y16:=int P.c.f) (y17:=int P.c.t) (y18:=int P.c.s) (y19:=int P.c.e) (y20:=int P.c.r) (y21:=int P.c.g) (y22:=int P.c.l) (y23:=int 0) (y24:=str P.d) (y25:=int P.e) (y26:=int s.snd.busy) (y27:=int s.snd.sr) (y28:=.slice M.p4 s.snd.K.length M.c4) (y31:=int 0) (y32:=int (totR P.d s.K)) (y33:=.slice M.p5 s.K.length M.c5) (y34:=str (datR P.d s.K)) (y36:=.bool s.rcvd) (y37:=int s.arr) (y38:=.bool s.kn) (y39:=int s.knAt) (P:=P) (s:=s) (d:=P.d) (pp:=pp) (pq:=pq) (cp:=cp) (cq:=cq) (ld:=u) (lr:=u) hM.d.at (fun f hf=>by rw [hM.d1 f hf]; rfl) hM.dm hS.dat (by omega) (by omega) hM.r.at (fun f hf=>by obtain ⟨_,_,_,_,_,e,_⟩:=hM.r1 f hf; rw [e]; rfl) hM.rm hS.rep (by omega) hcr.2.1 (by omega) (by omega) (OwnQ.at hM.w) (by omega) bs
 by_cases hf:10000≤s.ent
 ·refine h.last ?_
  rintro v H1 ⟨rfl,rfl⟩
  have hcl:clrM s={ s with wait:=[] }:=if_pos hf
  rw [if_pos hf,hcl];exact ⟨[_,_,_],_,rfl,rfl,{ M with p6:=none,c6:=0 },emp,⟨hM.d,hM.dm,hM.d1,hM.r,hM.rm,hM.r1,hM.o0,hM.o1,hM.om,hM.o2,OwnQ.nil _ _,hM.a,hM.k⟩,rfl⟩
 ·refine h.mono ?_
  rintro v H1 ⟨rfl,rfl⟩
  have hcl:clrM s=s:=if_neg hf
  rw [if_neg hf,hcl];exact ⟨rfl,M,σ.e,hM,rfl⟩
theorem trRun_spec {ρp ρd:PH} {P:Par} {t0 u:Int} {s:Ss} {pp pq:Option Addr} {cp cq:Nat} {M:Mm} {σ:S6} (hF:FixOK P t0 pp pq cp cq ρp ρd) (hI:RI P t0 s u) (hM:MOK P s M σ) (bs:Nat) :
  Eng.Spec Tryz.prog (fv 52) [.pointer (some ⟨bs,0,none⟩)] [ρp,ρd] [sesB pp pq cp cq P s M bs,σ.a,σ.b,σ.c,σ.d,σ.e,σ.f] (fun r H'=>r=.tuple #[]∧∃ s' M' σ' u',Runs P s s'∧RI P t0 s' u'∧nextM s'=none∧MOK P s' M' σ'∧H'=[sesB pp pq cp cq P s' M' bs,σ'.a,σ'.b,σ'.c,σ'.d,σ'.e,σ'.f]):=by
 have hP:=hF.ok
 have hcr:=chkCt_rg hP.hc
 have hcs:=chkCt_se hP.hc
 have h0:=hP.h0
 have h2:=hP.h2
 refine spec_in (cap:=[]) Tryz.func52 rfl rfl Tryz.ntmps52 rfl envZ (fun N β=>?_)
 refine Aab ?_;refine BI (trNextM_spec hP hI hM bs) rfl rfl takesZ rdZ rfl rfl ?_;rintro _ _ ⟨rfl,M0,ρ0,hM0,rfl⟩;refine Aa7 ?_;refine A5 ?_
 refine BU [0] (X:=Ss × Mm × S6 × Int) (s,M0,{ σ with e:=ρ0 },u) (fun z=>RI P t0 z.1 z.2.2.2∧MOK P (clrM z.1) z.2.1 z.2.2.1∧∀ s',Runs P z.1 s'→Runs P s s') (fun z=>[(2,int ((nextM (clrM z.1)).getD 0)),(3,.bool (nextM (clrM z.1)).isSome)]) (fun z=>[sesB pp pq cp cq P (clrM z.1) z.2.1 bs,z.2.2.1.a,z.2.2.1.b,z.2.2.1.c,z.2.2.1.d,z.2.2.1.e,z.2.2.1.f]) (fun z=>(2199023255554-z.2.2.2).toNat) pickZ ⟨hI,hM0,fun _ h=>h⟩ covZ selZ ?_
 rintro ⟨s1,M1,σ1,u1⟩ ⟨hI1,hM1,hR1⟩
 dsimp only at hI1 hM1 hR1 ⊢
 rcases hnx:nextM (clrM s1) with _|t
 ·refine AD ?_
  refine Aab ?_;refine Adh ?_;exact BV (H':=[sesB pp pq cp cq P (clrM s1) M1 bs,σ1.a,σ1.b,σ1.c,σ1.d,σ1.e,σ1.f]) (res0 rfl) rsubZ selZ ⟨rfl,clrM s1,M1,σ1,u1,hR1 _ (Runs.stop hnx),hI1.clr,hnx,hM1,rfl⟩
 obtain ⟨⟨a1,a2,a3,a4,a5⟩,⟨b1,b2,b3,b4⟩,⟨c1,c2,c3,c4,c5⟩,⟨d1,d2⟩,⟨e1,e2⟩⟩:=RI.mid hP hI1 hnx (s0:={ clrM s1 with now:=t }) (s1:=st1 P { clrM s1 with now:=t }) (s2:=st2 P { clrM s1 with now:=t }) (s3:=st3 P { clrM s1 with now:=t }) (s4:=st4 P { clrM s1 with now:=t }) rfl rfl rfl rfl rfl
 have hM2:MOK P { clrM s1 with now:=t } M1 σ1:=⟨hM1.d,hM1.dm,hM1.d1,hM1.r,hM1.rm,hM1.r1,hM1.o0,hM1.o1,hM1.om,hM1.o2,hM1.w,hM1.a,hM1.k⟩
 have hgd:(some t).getD 0=t:=rfl
 rw [hgd]
 have hu1:=hI1.u1
 unfold sesB
 dsimp only
 refine Aah ?_;refine Aai ?_;refine AN ?_;refine Aa2 ?_;refine Adn ?_;refine BC ?_; rintro _ _ ⟨rfl,rfl⟩;refine Acm ?_
 change JK _ _ _ (sesB pp pq cp cq P { clrM s1 with now:=t } M1 bs::_) _ _
 generalize ({ clrM s1 with now:=t }:Ss)=s0 at *
 refine AT trSteps_spec rfl rfl rdZ rfl rfl ?_;rintro _ rfl;refine Abx ?_
 refine BU [0,21] (X:=Nat × Mm × S6) (0,M1,σ1) (fun z=>z.1≤4∧MOK P (stg P s0 z.1) z.2.1 z.2.2) (fun z=>[(22,int (z.1:Int))]) (fun z=>[sesB pp pq cp cq P (stg P s0 z.1) z.2.1 bs,z.2.2.a,z.2.2.b,z.2.2.c,z.2.2.d,z.2.2.e,z.2.2.f]) (fun z=>4-z.1) pickZ ⟨by omega,hM2⟩ covZ selZ ?_
 rintro ⟨i,M3,σ3⟩ ⟨hi,hM3⟩
 dsimp only at hi hM3 ⊢
 by_cases hlt:i<4
 ·have hcase:i=0∨i=1∨i=2∨i=3:=by omega
  rcases hcase with rfl|rfl|rfl|rfl
  ·refine AD ?_
   refine AA ?_;refine Abj ?_;refine Aa ?_
   focus ((refine BT (FQ (i:=0) (n:=4) rfl rfl rfl rfl rfl (by decide) rfl) rfl rfl rfl ?_))
   refine Aaa ?_;refine Acp ?_
   refine BI (trTransmit_spec (ld:=t) (lr:=t) (lt:=t) hF (by rw [b1]; exact b2) (by rw [b1]; exact a3) (by omega) (by omega) ⟨b3,b4⟩ hM3 bs) rfl rfl takesZ rdZ rfl rfl ?_
   rintro _ _ ⟨rfl,M4,σ4,hM4,rfl⟩;refine Adp ?_
   exact BG (1,M4,σ4) ⟨by dsimp only; omega,hM4⟩ (by dsimp only; omega) covZ selZ
  ·refine AD ?_
   refine AA ?_;refine Abj ?_;refine Aa ?_
   focus ((refine BT (FQ (i:=1) (n:=4) rfl rfl rfl rfl rfl (by decide) rfl) rfl rfl rfl ?_))
   refine Aaa ?_;refine Acp ?_
   refine BI (trDeliver_spec (n:=t) hF c2 c3 c1 (by omega) (by omega) (by omega) ⟨c4,c5⟩ hM3 bs) rfl rfl takesZ rdZ rfl rfl ?_
   rintro _ _ ⟨rfl,M4,σ4,hM4,rfl⟩;refine Adp ?_
   exact BG (2,M4,σ4) ⟨by dsimp only; omega,hM4⟩ (by dsimp only; omega) covZ selZ
  ·refine AD ?_
   refine AA ?_;refine Abj ?_;refine Aa ?_
   focus ((refine BT (FQ (i:=2) (n:=4) rfl rfl rfl rfl rfl (by decide) rfl) rfl rfl rfl ?_))
   refine Aaa ?_;refine Acp ?_
   refine BI (trListen_spec (n:=t) hP d2 d1 (by omega) (by omega) hM3 bs) rfl rfl takesZ rdZ rfl rfl ?_
   rintro _ _ ⟨rfl,M4,σ4,hM4,rfl⟩;refine Adp ?_
   exact BG (3,M4,σ4) ⟨by dsimp only; omega,hM4⟩ (by dsimp only; omega) covZ selZ
  ·refine AD ?_
   refine AA ?_;refine Abj ?_;refine Aa ?_
   focus ((refine BT (FQ (i:=3) (n:=4) rfl rfl rfl rfl rfl (by decide) rfl) rfl rfl rfl ?_))
   refine Aaa ?_;refine Acp ?_
   have hex:=trExpire_spec (y0:=int P.c.g) (y1:=.slice M3.p0 M3.F.length M3.c0) (y2:=int (st3 P s0).dat.sent) (y3:=int (st3 P s0).dat.lost) (y4:=int P.c.g) (y5:=.slice M3.p1 M3.G.length M3.c1) (y6:=int (st3 P s0).rep.sent) (y7:=int (st3 P s0).rep.lost) (y13:=.slice M3.p2 (st3 P s0).out0.length M3.c2) (y14:=.slice M3.p3 M3.O.length M3.c3) (y31:=int 0) (y32:=int (totR P.d (st3 P s0).K)) (y33:=.slice M3.p5 (st3 P s0).K.length M3.c5) (y34:=str (datR P.d (st3 P s0).K)) (y36:=.bool (st3 P s0).rcvd) (y37:=int (st3 P s0).arr) (y38:=.bool (st3 P s0).kn) (y39:=int (st3 P s0).knAt) (pp:=pp) (pq:=pq) (cp:=cp) (cq:=cq) hP e2.sn hM3.a hM3.w (fun hw hd=>exp_nil hP (s:=st3 P s0) (by rw [e1]; exact e2) hw hd) (by rw [e1]; omega) bs
   obtain ⟨eb,er,ed,es,W,hE⟩:=expM_frame P (st3 P s0)
   have e4:st4 P s0={ st3 P s0 with snd:=⟨eb,er,ed,es,(st3 P s0).snd.K⟩,wait:=W }:=hE
   rw [hE] at hex
   dsimp only at hex
   refine BI hex rfl rfl takesZ rdZ rfl rfl ?_;rintro _ _ ⟨rfl,pw,cw,σw,hQ,rfl⟩;refine Adp ?_
   change JK _ _ _ (sesB pp pq cp cq P { st3 P s0 with snd:=⟨eb,er,ed,es,(st3 P s0).snd.K⟩,wait:=W } { M3 with p6:=pw,c6:=cw } bs::_) _ _
   rw [← e4]
   exact BG (4,{ M3 with p6:=pw,c6:=cw },{ σ3 with e:=σw }) ⟨by dsimp only; omega,by show MOK P (st4 P s0) _ _; rw [e4]; exact ⟨hM3.d,hM3.dm,hM3.d1,hM3.r,hM3.rm,hM3.r1,hM3.o0,hM3.o1,hM3.om,hM3.o2,hQ,hM3.a,hM3.k⟩⟩ (by dsimp only; omega) covZ selZ
 obtain rfl:i=4:=by omega
 refine Ab5 ?_;refine Abb ?_;refine AB ?_;refine BI (trNextM_spec hP a5 hM3 bs) rfl rfl takesZ rdZ rfl rfl ?_;rintro _ _ ⟨rfl,M5,ρ5,hM5,rfl⟩;refine Aa7 ?_
 exact BG (st4 P s0,M5,{ σ3 with e:=ρ5 },t+1) ⟨a5,hM5,fun s' h=>hR1 s' (Runs.step hnx (by rw [← a4]; exact h))⟩ (by dsimp only; omega) covZ selZ
def startE (P:Par) (t0:Int):Int:=if P.limit < -1 then 2 else if chkI P.dark≠0 then 1 else stE P.c P.d t0 P.e
theorem trStart_spec {ρp ρd:PH} {P:Par} {t0:Int} {pp pq:Option Addr} {cp cq:Nat} (hp:IntsAt ρp (.slice pp P.picks.length cp) P.picks) (hpk:∀ x∈P.picks,-9223372036854775808≤x∧x≤9223372036854775807) (hpl:P.picks.length≤1000) (hq:SpAt ρd (.slice pq P.dark.length cq) P.dark) (hql:P.dark.length≤1000) (hn:P.d.length≤990) :
  Eng.Spec Tryz.prog (fv 26) [.agg #[int P.c.f,int P.c.t,int P.c.s,int P.c.e,int P.c.r,int P.c.g,int P.c.l],int t0,int P.e,str P.d,.slice pp P.picks.length cp,int P.limit,.slice pq P.dark.length cq] [ρp,ρd] [] (fun r H'=>(startE P t0≠0∧r=.tuple #[.pointer none,int (startE P t0)]∧H'=[])∨(startE P t0=0∧okP P t0∧(endG P.c.r t0 (bat 1 (pcsAll (missI P.d.length []))))≤P.e∧∃ bs s' M' σ' u',Runs P (beginM P t0) s'∧RI P t0 s' u'∧nextM s'=none∧MOK P s' M' σ'∧r=.tuple #[.pointer (some ⟨bs,0,none⟩),int 0]∧H'=[sesB pp pq cp cq P s' M' bs,σ'.a,σ'.b,σ'.c,σ'.d,σ'.e,σ'.f])):=by
 have hck:=ivCheck_spec ρd _ P.dark hq (by omega)
 have hst:=sndStart_spec P.c (se:=0) (t0:=t0) (e:=P.e) (d:=P.d) hn ⟨by omega,by omega⟩
 refine spec_in (cap:=[]) Tryz.func26 rfl rfl Tryz.ntmps26 rfl envZ (fun N β=>?_)
 refine Aa ?_;refine BJ (BL rfl) rfl rfl rfl ?_;rintro _ _ ⟨b7,rfl,rfl⟩;refine AS (ρ:=sng b7 _) takeZ ?_
 have cc:=rdB b7 23 [int P.c.f,int P.c.t,int P.c.s,int P.c.e,int P.c.r,int P.c.g,int P.c.l]
 have cc0:=rdC cc 0
 have cc1:=rdC cc 1
 have cc2:=rdC cc 2
 have cc3:=rdC cc 3
 have cc4:=rdC cc 4
 have cc5:=rdC cc 5
 have cc6:=rdC cc 6
 refine Aaj ?_;refine Aa2 ?_;refine Aab ?_;refine BD ?_;refine BO ?_;refine Ab9 ?_;refine Aab ?_
 by_cases hlim:P.limit < -1
 ·have hE:startE P t0=2:=if_pos hlim
  rw [hE];refine B7 ?_;refine Aaa ?_;refine AW rfl ?_;refine Acn ?_
  exact AK (H':=[]) (res2 rfl rfl rfl) rsubZ selZ (.inl ⟨by omega,rfl,rfl⟩)
 refine BK ?_;refine Ab9 ?_;refine Aab ?_;refine AT hck rfl rfl rdZ rfl rfl ?_;rintro _ rfl
 by_cases hdk:chkI P.dark=0
 rotate_left
 ·have hE:startE P t0=1:=(if_neg hlim).trans (if_pos hdk)
  rw [hE]
  generalize chkI P.dark=er at hdk
  refine C8 ?_;refine Aaa ?_;refine AW rfl ?_;refine Acn ?_
  exact AK (H':=[]) (res2 rfl rfl rfl) rsubZ selZ (.inl ⟨by omega,rfl,rfl⟩)
 have hE:startE P t0=stE P.c P.d t0 P.e:=(if_neg hlim).trans (if_neg (fun h=>h hdk))
 rw [hdk,hE];refine BM ?_;refine Aaa ?_;refine Aaf ?_;refine BH ?_;refine Aau ?_;refine Abq ?_
 refine BI hst rfl rfl Takes.nil (fun τ hτ=>by simp at hτ) rfl rfl ?_
 rintro _ _ (⟨hE0,rfl,rfl⟩|⟨hE0,⟨hc,hn1,k1,k2,k3,hok⟩,pw,cw,σw,rfl,hO,rfl⟩)
 ·generalize stE P.c P.d t0 P.e=er at hE0
  refine Acq ?_;refine AJ ?_;refine A4 ?_; rintro _ _ ⟨b,rfl,rfl⟩;refine AY ?_; rintro _ _ ⟨rfl,rfl⟩;refine Aaj ?_;refine Aah ?_;refine C8 ?_;refine Aai ?_;refine Aab ?_;refine Aaj ?_;exact AK (H':=[]) (res2 rfl rfl rfl) rsubZ selZ (.inl ⟨hE0,rfl,rfl⟩)
 rw [hE0]
 obtain ⟨hr,hgg,hce⟩:=chkCt_rg hc
 have hP:okP P t0:=⟨hc,hn1,hn,k1,k2,k3⟩
 have hRI:=RI.begin hP hok
 have hM0:MOK P (beginM P t0) ⟨[],[],[],none,none,none,none,none,none,pw,0,0,0,0,0,0,cw⟩ ⟨emp,emp,emp,emp,σw,emp⟩:=
  ⟨OwnS.nil _ _,rfl,fun f hf=>absurd hf (by simp),OwnS.nil _ _,rfl,fun f hf=>absurd hf (by simp),OwnS.nil _ _,OwnS.nil _ _,rfl,fun f hf=>absurd hf (by simp),OwnQ.ofS hO,⟨rfl,.inl ⟨rfl,none,0,rfl⟩⟩,⟨rfl,.inl ⟨rfl,none,0,rfl⟩⟩⟩
 have hF:FixOK P t0 pp pq cp cq ρp ρd:=⟨hP,hp,hpk,hpl,hq,hdk⟩
 have htl:=timed_len P.c.r (bat 1 (pcsAll (missI P.d.length []))) t0
 have hrun:=fun bs=>trRun_spec hF hRI hM0 bs
 rw [← htl]
 generalize hXX:timed P.c.r t0 (bat 1 (pcsAll (missI P.d.length [])))=X at *
 generalize hEE:(endG P.c.r t0 (bat 1 (pcsAll (missI P.d.length []))))=E at *
 refine Acq ?_;refine AJ ?_;refine A4 ?_; rintro _ _ ⟨b,rfl,rfl⟩;refine AY ?_; rintro _ _ ⟨rfl,rfl⟩;refine Aaj ?_;refine Ad2 ?_;refine Aam ?_;refine AT (lnkNew_spec hgg) rfl rfl rdZ rfl rfl ?_;rintro _ rfl;refine Acq ?_;refine A4 ?_; rintro _ _ ⟨b,rfl,rfl⟩;refine AY ?_; rintro _ _ ⟨rfl,rfl⟩;refine Ach ?_;refine AT rcvNew_spec rfl rfl rdZ rfl rfl ?_;rintro _ rfl;refine Acq ?_;refine A4 ?_; rintro _ _ ⟨b,rfl,rfl⟩;refine AY ?_; rintro _ _ ⟨rfl,rfl⟩;refine Ac5 ?_;refine AQ ?_;refine Abq ?_
 focus ((refine BT (CM (out:=[int P.c.g,.slice none 0 0,int 0,int 0,int P.c.g,.slice none 0 0,int 0,int 0,.slice pp P.picks.length cp,int P.limit,.slice pq P.dark.length cq,int 0,int 0,.slice none 0 0,.slice none 0 0]) rfl rfl rfl rfl rfl) rfl rfl rfl ?_))
 refine AQ ?_;refine AQ ?_;refine AB ?_
 focus ((refine BT (CM (out:=[int P.c.g,.slice none 0 0,int 0,int 0,int P.c.g,.slice none 0 0,int 0,int 0,.slice pp P.picks.length cp,int P.limit,.slice pq P.dark.length cq,int 0,int 0,.slice none 0 0,.slice none 0 0,int 0,int P.c.f,int P.c.t,int P.c.s,int P.c.e,int P.c.r,int P.c.g,int P.c.l,int 0,str P.d,int P.e,int E,int 1,.slice none 0 0,int (E+2*P.c.g+1),int 1,int 0,int (-1),.slice none 0 0,str [],.slice pw X.length cw,.bool false,int 0,.bool false,int 0]) rfl rfl rfl rfl rfl) rfl rfl rfl ?_))
 refine CW ?_; rintro _ _ ⟨b,rfl,rfl⟩;refine Abv ?_
 revert b; intro bs
 subst hXX;subst hEE
 change JK _ _ _ (sesB pp pq cp cq P (beginM P t0) ⟨[],[],[],none,none,none,none,none,none,pw,0,0,0,0,0,0,cw⟩ bs::_) _ _
 refine CG ?_;refine CG ?_;refine CG ?_;refine CG ?_;refine CG ?_;refine BI (hrun bs) rfl rfl takesZ rdZ rfl rfl ?_;rintro _ _ ⟨rfl,s',M',σ',u',g1,g2,g3,g4,rfl⟩;refine Abt ?_;refine Aaj ?_;exact AK (H':=[sesB pp pq cp cq P s' M' bs,σ'.a,σ'.b,σ'.c,σ'.d,σ'.e,σ'.f]) (res2 rfl rfl rfl) rsubZ selZ (.inr ⟨rfl,hP,hok,bs,s',M',σ',u',g1,g2,g3,g4,rfl,rfl⟩)
theorem trFrames_spec {ρp ρd:PH} {P:Par} {t0:Int} {pp pq:Option Addr} {cp cq:Nat} (hp:IntsAt ρp (.slice pp P.picks.length cp) P.picks) (hpk:∀ x∈P.picks,-9223372036854775808≤x∧x≤9223372036854775807) (hpl:P.picks.length≤1000) (hq:SpAt ρd (.slice pq P.dark.length cq) P.dark) (hql:P.dark.length≤1000) (hn:P.d.length≤990) :
  Eng.Spec Tryz.prog (fv 9) [.agg #[int P.c.f,int P.c.t,int P.c.s,int P.c.e,int P.c.r,int P.c.g,int P.c.l],int t0,int P.e,str P.d,.slice pp P.picks.length cp,int P.limit,.slice pq P.dark.length cq] [ρp,ρd] [] (fun r H'=>(startE P t0≠0∧r=.tuple #[.slice none 0 0,.slice none 0 0,int (startE P t0)]∧H'=[])∨(startE P t0=0∧okP P t0∧(endG P.c.r t0 (bat 1 (pcsAll (missI P.d.length []))))≤P.e∧∃ s' M' σ' u',Runs P (beginM P t0) s'∧RI P t0 s' u'∧nextM s'=none∧MOK P s' M' σ'∧r=.tuple #[.slice M'.p2 s'.out0.length M'.c2,.slice M'.p3 M'.O.length M'.c3,int 0]∧H'=[σ'.c,σ'.d,σ'.f])):=by
 have hst:=trStart_spec (t0:=t0) hp hpk hpl hq hql hn
 refine spec_in (cap:=[]) Tryz.func9 rfl rfl Tryz.ntmps9 rfl envZ (fun N β=>?_)
 refine Aa ?_;refine BJ (BL rfl) rfl rfl rfl ?_;rintro _ _ ⟨b7,rfl,rfl⟩;refine AS (ρ:=sng b7 _) takeZ ?_
 have cc:=rdB b7 23 [int P.c.f,int P.c.t,int P.c.s,int P.c.e,int P.c.r,int P.c.g,int P.c.l]
 have cc0:=rdC cc 0
 have cc1:=rdC cc 1
 have cc2:=rdC cc 2
 have cc3:=rdC cc 3
 have cc4:=rdC cc 4
 have cc5:=rdC cc 5
 have cc6:=rdC cc 6
 refine AC ?_;refine Aaj ?_;refine Aau ?_;refine Aao ?_;refine Aao ?_;refine Aao ?_;refine BI hst rfl rfl Takes.nil rdZ rfl rfl ?_;rintro _ _ (⟨hE,rfl,rfl⟩|⟨hE,hP,hok,bs,s',M',σ',u',g1,g2,g3,g4,rfl,rfl⟩)
 ·generalize startE P t0=er at hE ⊢
  refine Acz ?_;refine C8 ?_;refine Aai ?_;refine Aab ?_;refine AC ?_;refine Aaj ?_;exact AK (H':=[]) (res3 rfl rfl rfl rfl) rsubZ selZ (.inl ⟨hE,rfl,rfl⟩)
 unfold sesB;refine Acz ?_;refine Aba ?_;refine AD ?_
 refine BB P8Z [] rfl (by kernel_rfl) Sel.nil ?_
 refine Acl ?_;refine A2 ?_
 focus ((refine CJ rfl (CS (i:=0) (m:=13) (s:=1) rfl rfl rfl rfl (by decide) rfl) rfl rfl rfl rfl ?_))
 refine AX ?_;refine Acl ?_;refine A2 ?_
 focus ((refine CJ rfl (CS (i:=1) (m:=14) (s:=1) rfl rfl rfl rfl (by decide) rfl) rfl rfl rfl rfl ?_))
 refine AX ?_;refine AR ?_;refine Abo ?_
 skip
 exact AK (H':=[σ'.c,σ'.d,σ'.f]) (res3 rfl rfl rfl rfl) rsubZ selZ (.inr ⟨hE,hP,hok,s',M',σ',u',g1,g2,g3,g4,rfl,rfl⟩)
end Go.Proofs.YtekcielcagdcmaaGreatDoor
namespace Go.Step
open Go.Eng
def Ap (c:Ct) (i:Nat) (l:List Bk) (ea:Int):Prop:=(i=0∧l=[])∨(i=1∧∃ e k,l=[⟨0,c.s,e,k⟩]∧c.s<e∧ea≤e)∨i=2
theorem ap_fit {c:Ct} {i:Nat} {l:List Bk} {ea D b:Int} (hc:chkCt c=0) (h:Ap c i l ea) (hi:i<2) (hD:1≤D) (hf:fitL (freeC [c] l 0) D=some b) (k:Int) :
    c.s≤b∧b+D≤c.e∧(i=1→ea≤b)∧(busyL l 0).any (overB ⟨0,b,b+D,k⟩)=false∧(i=0→b=c.s∧l=[])∧l.length≤1:=by
  have hcs:=chkCt_se hc
  rcases h with ⟨h0,rfl⟩|⟨h1,e,k1,rfl,he,hea⟩|h2
  · rw [gaps_nil rfl hcs.2.1] at hf
    unfold fitL at hf
    split at hf
    · rename_i hle
      have hb:=Option.some.inj hf
      dsimp only at hle hb
      refine ⟨by omega,by omega,fun h=>by omega,rfl,fun _=>⟨by omega,rfl⟩,by simp⟩
    · cases hf
  · rw [gaps_one rfl] at hf
    split at hf
    · unfold fitL at hf
      split at hf
      · rename_i hle
        have hb:=Option.some.inj hf
        dsimp only at hle hb
        refine ⟨by omega,by omega,fun _=>by omega,?_,fun h=>by omega,by simp⟩
        unfold busyL overB
        simp
        omega
      · cases hf
    · cases hf
  · omega
theorem ap_ok {c:Ct} {b D k:Int} (hc:chkCt c=0) (h1:c.s≤b) (h2:b+D≤c.e) (hD:1≤D) (hk:0≤k∧k≤1152921504606846976):okBkB [c] ⟨0,b,b+D,k⟩=true:=by
  rw [okBkB_iff]
  exact ⟨⟨by dsimp only; omega,by simp,hk.1,hk.2⟩,c,rfl,h1,by dsimp only; omega,h2⟩
theorem chkB_pl {qs:List Int} {cs:List Ct} {l:List Bk} (h:chkB qs cs l=0):chkPl qs cs=0:=by
  unfold chkB at h
  split at h
  · omega
  · rename_i h1
    exact Decidable.not_not.1 h1
theorem pl_one {qs:List Int} {c:Ct} (h:chkPl qs [c]=0):c.f<qs.length∧c.t<qs.length:=(chkPl_ct h (c:=c) (by simp)).2
theorem ct_ft {c:Ct} (h:chkCt c=0):0≤c.f∧0≤c.t∧c.f≤15∧c.t≤15∧c.f≠c.t:=by
  unfold chkCt at h
  split at h
  · omega
  · rename_i hk
    split at h
    · omega
    · split at h
      · omega
      · unfold okCt at hk
        omega
theorem segT_tick (c:Ct) (n:Int):(n+8+c.r-1) / c.r=segT c.r n:=rfl
end Go.Step
namespace Go.Proofs.YtekcielcagdcmaaGreatDoor
open Go.Eng Go.Step
set_option maxRecDepth 100000
set_option maxHeartbeats 64000000
theorem ap_start {c:Ct} {d:List UInt8} {p:List Int} {b:Int} (hc:chkCt c=0) (h1:c.s≤b) (h2:b+durC c d.length≤c.e) (hd:1≤d.length∧d.length≤120):startE ⟨c,d,b+durC c d.length,p,-1,[]⟩ b=0:=by
 have hdu:=durC_bd (s:=(d.length:Int)) hc ⟨by omega,by omega⟩
 have hpa:=pass_dur (n:=(d.length:Int)) hc
 have hen:=end_pass c (n:=d.length) (by omega) b
 have e1:startE ⟨c,d,b+durC c d.length,p,-1,[]⟩ b=stE c d b (b+durC c d.length):=(if_neg (by dsimp only; omega)).trans (if_neg (fun h=>h rfl))
 rw [e1];unfold stE
 rw [if_neg (fun h=>h hc),if_neg (fun h=>by rw [h] at hd; simp at hd),if_neg (fun h=>h ⟨h1,by omega,h2⟩),if_neg (by rw [hen]; omega)]
structure Sa where
 i:Nat
 l:List Bk
 u:Value
 s:PH
 ea:Int
 eb:Int
theorem apart_law {ρx ρy:PH} (c:Ct) (dx dy:List UInt8) (px py:List Int) {w1 w2 w3 z1 z2 z3 z4 z5 z6 z7 z8 z9 z10:Int} {qx rx qy ry:Option Addr} {kx mx ux ky my uy:Nat} (hpx:IntsAt ρx (.slice qx px.length kx) px) (hpy:IntsAt ρy (.slice qy py.length ky) py) (hrx:∀ x∈px,-9223372036854775808≤x∧x≤9223372036854775807) (hry:∀ x∈py,-9223372036854775808≤x∧x≤9223372036854775807) (hlx:px.length≤9223372036854775807) (hly:py.length≤9223372036854775807) :
  Ans Tryz.prog (fv 3) [.agg #[int c.f,int c.t,int c.s,int c.e,int c.r,int c.g,int c.l,int w1,int w2,str dx,.slice qx px.length kx,int w3,.slice rx mx ux],.agg #[int z1,int z2,int z3,int z4,int z5,int z6,int z7,int z8,int z9,str dy,.slice qy py.length ky,int z10,.slice ry my uy]] [ρx,ρy] (fun r=>r=.bool true):=by
 have haw:Ans Tryz.prog (.func (.func 5) #[] #[]) [] [] (fun r=>r=.bool true):=awake5_spec
 have hck:=ctCheck_spec c
 refine spec_in (cap:=[]) Tryz.func3 rfl rfl Tryz.ntmps3 rfl envZ (fun N β=>?_)
 refine Aa ?_;refine BJ (BL rfl) rfl rfl rfl ?_;rintro _ _ ⟨b2,rfl,rfl⟩;refine AS (ρ:=sng b2 _) takeZ ?_
 have bx39_3:=rdB b2 27 [int c.f,int c.t,int c.s,int c.e,int c.r,int c.g,int c.l,int w1,int w2,str dx,.slice qx px.length kx,int w3,.slice rx mx ux]
 have cx9:=rdC bx39_3 9
 have cx10:=rdC bx39_3 10
 have cx0:RdN (sng b2 (.cells #[int c.f,int c.t,int c.s,int c.e,int c.r,int c.g,int c.l,int w1,int w2,str dx,.slice qx px.length kx,int w3,.slice rx mx ux] 27 (0,0))) b2 0 [int c.f,int c.t,int c.s,int c.e,int c.r,int c.g,int c.l]:=(rdP_sng (k:=0) (xs:=[int c.f,int c.t,int c.s,int c.e,int c.r,int c.g,int c.l,int w1,int w2,str dx,.slice qx px.length kx,int w3,.slice rx mx ux]) rfl).rd
 refine BJ (BL rfl) rfl rfl rfl ?_;rintro _ _ ⟨b3,rfl,rfl⟩;refine AS (ρ:=sng b3 _) takeZ ?_
 have bx44_3:=rdB b3 27 [int z1,int z2,int z3,int z4,int z5,int z6,int z7,int z8,int z9,str dy,.slice qy py.length ky,int z10,.slice ry my uy]
 have cy9:=rdC bx44_3 9
 have cy10:=rdC bx44_3 10
 by_cases h1:dx.length≤120
 rotate_left
 ·skip
  refine Adm ?_;refine A4 ?_; rintro _ _ ⟨b,rfl,rfl⟩;refine AY ?_; rintro _ _ ⟨rfl,rfl⟩;refine Acb ?_
  focus ((refine' BT _ rfl rfl rfl _; rotate_left; (apply B0; exact rfl; exact rfl)))
  refine DA ?_;refine Aa6 ?_;refine Ac3 ?_;refine Ac3 ?_;refine Ac3 ?_;refine Ac3 ?_;refine Ack ?_;refine Ack ?_;refine Adc ?_;refine AT haw rfl rfl rdZ rfl rfl ?_;rintro _ rfl;refine Aaa ?_;exact A9 ⟨rfl,rfl⟩
 by_cases h2:dy.length≤120
 rotate_left
 ·skip
  refine Adm ?_;refine A4 ?_; rintro _ _ ⟨b,rfl,rfl⟩;refine AY ?_; rintro _ _ ⟨rfl,rfl⟩;refine Acb ?_
  focus ((refine' BT _ rfl rfl rfl _; rotate_left; (apply B0; exact rfl; exact rfl)))
  refine BO ?_;refine Aak ?_
  focus ((refine' BT _ rfl rfl rfl _; rotate_left; (apply B0; exact rfl; exact rfl)))
  refine Ado ?_;refine Aa6 ?_;refine Ac3 ?_;refine Ac3 ?_;refine Ac3 ?_;refine Ack ?_;refine Ack ?_;refine Adc ?_;refine AT haw rfl rfl rdZ rfl rfl ?_;rintro _ rfl;refine Aaa ?_;exact A9 ⟨rfl,rfl⟩
 by_cases h3:px.length≤60
 rotate_left
 ·skip
  refine Adm ?_;refine A4 ?_; rintro _ _ ⟨b,rfl,rfl⟩;refine AY ?_; rintro _ _ ⟨rfl,rfl⟩;refine Acb ?_
  focus ((refine' BT _ rfl rfl rfl _; rotate_left; (apply B0; exact rfl; exact rfl)))
  refine BO ?_;refine Aak ?_
  focus ((refine' BT _ rfl rfl rfl _; rotate_left; (apply B0; exact rfl; exact rfl)))
  refine Ac9 ?_;refine Ado ?_;refine Aa6 ?_;refine Ac3 ?_;refine Ac3 ?_;refine Ack ?_;refine Ack ?_;refine Adc ?_;refine AT haw rfl rfl rdZ rfl rfl ?_;rintro _ rfl;refine Aaa ?_;exact A9 ⟨rfl,rfl⟩
 by_cases h4:py.length≤60
 rotate_left
 ·skip
  refine Adm ?_;refine A4 ?_; rintro _ _ ⟨b,rfl,rfl⟩;refine AY ?_; rintro _ _ ⟨rfl,rfl⟩;refine Acb ?_
  focus ((refine' BT _ rfl rfl rfl _; rotate_left; (apply B0; exact rfl; exact rfl)))
  refine BO ?_;refine Aak ?_
  focus ((refine' BT _ rfl rfl rfl _; rotate_left; (apply B0; exact rfl; exact rfl)))
  refine Ac9 ?_;refine Ac9 ?_;refine Ado ?_;refine Aa6 ?_;refine Ac3 ?_;refine Ack ?_;refine Ack ?_;refine Adc ?_;refine AT haw rfl rfl rdZ rfl rfl ?_;rintro _ rfl;refine Aaa ?_;exact A9 ⟨rfl,rfl⟩
 by_cases h5:1≤dx.length
 rotate_left
 ·skip
  refine Adm ?_;refine A4 ?_; rintro _ _ ⟨b,rfl,rfl⟩;refine AY ?_; rintro _ _ ⟨rfl,rfl⟩;refine Acb ?_
  focus ((refine' BT _ rfl rfl rfl _; rotate_left; (apply B0; exact rfl; exact rfl)))
  refine BO ?_;refine Aak ?_
  focus ((refine' BT _ rfl rfl rfl _; rotate_left; (apply B0; exact rfl; exact rfl)))
  refine Ac9 ?_;refine Ac9 ?_;refine Ab1 ?_
  focus ((refine' BT _ rfl rfl rfl _; rotate_left; (apply B0; exact rfl; exact rfl)))
  refine CN ?_;refine AP ?_;refine Aa6 ?_;refine Ack ?_;refine Ack ?_;refine Adc ?_;refine AT haw rfl rfl rdZ rfl rfl ?_;rintro _ rfl;refine Aaa ?_;exact A9 ⟨rfl,rfl⟩
 by_cases h6:1≤dy.length
 rotate_left
 ·skip
  refine Adm ?_;refine A4 ?_; rintro _ _ ⟨b,rfl,rfl⟩;refine AY ?_; rintro _ _ ⟨rfl,rfl⟩;refine Acb ?_
  focus ((refine' BT _ rfl rfl rfl _; rotate_left; (apply B0; exact rfl; exact rfl)))
  refine BO ?_;refine Aak ?_
  focus ((refine' BT _ rfl rfl rfl _; rotate_left; (apply B0; exact rfl; exact rfl)))
  refine Ac9 ?_;refine Ac9 ?_;refine Ab1 ?_
  focus ((refine' BT _ rfl rfl rfl _; rotate_left; (apply B0; exact rfl; exact rfl)))
  refine B9 ?_;refine Aa5 ?_
  focus ((refine' BT _ rfl rfl rfl _; rotate_left; (apply B0; exact rfl; exact rfl)))
  refine CN ?_;refine AP ?_;refine Aa3 ?_;refine Ack ?_;refine Adc ?_;refine AT haw rfl rfl rdZ rfl rfl ?_;rintro _ rfl;refine Aaa ?_;exact A9 ⟨rfl,rfl⟩
 refine Adm ?_;refine A4 ?_; rintro _ _ ⟨b,rfl,rfl⟩;refine AY ?_; rintro _ _ ⟨rfl,rfl⟩;refine Acb ?_
 focus ((refine' BT _ rfl rfl rfl _; rotate_left; (apply B0; exact rfl; exact rfl)))
 refine BO ?_;refine Aak ?_
 focus ((refine' BT _ rfl rfl rfl _; rotate_left; (apply B0; exact rfl; exact rfl)))
 refine Ac9 ?_;refine Ac9 ?_;refine Ab1 ?_
 focus ((refine' BT _ rfl rfl rfl _; rotate_left; (apply B0; exact rfl; exact rfl)))
 refine B9 ?_;refine Aa5 ?_
 focus ((refine' BT _ rfl rfl rfl _; rotate_left; (apply B0; exact rfl; exact rfl)))
 refine B9 ?_;refine AP ?_;refine AB ?_;refine AQ ?_
 revert b; intro b5
 refine AS (ρ:=sng b5 (.cells #[int c.f,int c.t,int c.s,int c.e,int c.r,int c.g,int c.l] 23 (0,0))) takeZ ?_
 have cc:=rdB b5 23 [int c.f,int c.t,int c.s,int c.e,int c.r,int c.g,int c.l]
 have cc0:=rdC cc 0
 have cc1:=rdC cc 1
 have cc2:=rdC cc 2
 have cc3:=rdC cc 3
 have cc4:=rdC cc 4
 have cc5:=rdC cc 5
 have cc6:=rdC cc 6
 refine AT hck rfl rfl rdZ rfl rfl ?_;rintro _ rfl
 by_cases hc:chkCt c=0
 rotate_left
 ·generalize chkCt c=er at hc
  refine C8 ?_;refine AP ?_;refine Aa3 ?_;refine Adc ?_;refine AT haw rfl rfl rdZ rfl rfl ?_;rintro _ rfl;refine Aaa ?_;exact A9 ⟨rfl,rfl⟩
 rw [hc]
 by_cases hl:c.l≤4
 rotate_left
 ·skip
  refine BM ?_;refine Aa5 ?_;refine Ado ?_;refine Acy ?_;refine AT haw rfl rfl rdZ rfl rfl ?_;rintro _ rfl;refine Aaa ?_;exact A9 ⟨rfl,rfl⟩
 have hcs:=chkCt_se hc
 have hft:=ct_ft hc
 have hcr:=chkCt_rg hc
 have hfl:Flat [.agg #[int c.f,int c.t,int c.s,int c.e,int c.r,int c.g,int c.l]] [int c.f,int c.t,int c.s,int c.e,int c.r,int c.g,int c.l]:=Flat.agg (ws:=[int c.f,int c.t,int c.s,int c.e,int c.r,int c.g,int c.l]) Flat.nil
 obtain ⟨n,hn⟩:∃ n:Nat,max c.f c.t+1=(n:Int):=⟨(max c.f c.t+1).toNat,by omega⟩
 refine BM ?_;refine Aa5 ?_;refine BO ?_;refine Aa4 ?_;refine AD ?_
 refine DG (X:=Nat × Nat × Nat) [2,3,4,5] (fun _=>True) (fun z=>[(6,.pointer (some ⟨z.1,0,none⟩))]) (fun z=>[sng z.1 (.cells #[.slice (some ⟨z.2.1,0,none⟩) n n,.slice (some ⟨z.2.2,0,none⟩) 1 1] 33 (0,0)),sng z.2.1 (.cells (ints (List.replicate n 0)) 3 (0,0)),sng z.2.2 (.cells #[int c.f,int c.t,int c.s,int c.e,int c.r,int c.g,int c.l] 23 (0,0))]) pickZ ?_ ?_
 ·refine BB (.q 0 (.q 1 (.q 2 (.q 3 (.q 4 (.q 5 (.q 7 (.l3 6 .e (.l2 8 .e (.q 9 (.l 10 .e (.l 11 .b .nil))) 10 .e (.l 8 .e (.q 9 (.l 11 .b .nil)))) 8 .e (.l2 6 .e (.q 9 (.l 10 .e (.l 11 .b .nil))) 10 .e (.l 6 .e (.q 9 (.l 11 .b .nil)))) 10 .e (.l2 6 .e (.l 8 .e (.q 9 (.l 11 .b .nil))) 8 .e (.l 6 .e (.q 9 (.l 11 .b .nil)))))))))))) [] rfl (by kernel_rfl) Sel.nil ?_
  refine Adk ?_;refine F6 ?_;refine DI ?_;refine BP ?_
  focus ((rw [hn]))
  have hn16:n≤16:=by omega
  refine GQ ?_ ?_ ?_
  ·refine a_e rfl (D7 rfl rfl rfl rfl rfl rfl (by omega) (by omega)) rfl rfl rfl (by rintro _ _ ⟨b,rfl,rfl⟩ w hw; exact hw.tail) ?_
   rintro _ _ ⟨bq,rfl,rfl⟩;refine C4 ?_ ?_
   ·refine a_e rfl (BW (cs:=[int c.f,int c.t,int c.s,int c.e,int c.r,int c.g,int c.l]) rfl rfl rfl rfl rfl oneZ hfl rfl) rfl rfl rfl (by rintro _ _ ⟨b,rfl,rfl⟩ w hw; exact hw.tail) ?_
    rintro _ _ ⟨bc,rfl,rfl⟩;refine C6 ?_;refine B5 ?_; rintro _ _ ⟨b,rfl,rfl⟩
    revert b; intro b6
    refine BQ ?_;refine' CO rfl _ rfl rfl _ _
    rotate_left
    ·apply BA; exact rfl; exact rfl; exact takeZ; exact oneZ; exact rfl; exact rfl
    ·rintro _ _ ⟨_,rfl⟩ w hw; exact hw.sel Sel.nil
    rintro _ _ ⟨rfl,rfl⟩;refine A8 ?_
    skip
    exact BF (b6,bq,bc) trivial covZ selZ
   ·refine a_e rfl (C5 rfl) rfl rfl rfl (by rintro _ _ ⟨b,rfl,rfl⟩ w hw; exact hw.tail) ?_
    rintro _ _ ⟨b6,rfl,rfl⟩
    refine BQ (a_e rfl (BW (cs:=[int c.f,int c.t,int c.s,int c.e,int c.r,int c.g,int c.l]) rfl rfl rfl rfl rfl oneZ hfl rfl) rfl rfl rfl (by rintro _ _ ⟨b,rfl,rfl⟩ w hw; exact hw.tail) ?_)
    rintro _ _ ⟨bc,rfl,rfl⟩;refine C6 ?_;refine BQ ?_;refine' CO rfl _ rfl rfl _ _
    rotate_left
    ·apply BA; exact rfl; exact rfl; exact takeZ; exact oneZ; exact rfl; exact rfl
    ·rintro _ _ ⟨_,rfl⟩ w hw; exact hw.sel Sel.nil
    rintro _ _ ⟨rfl,rfl⟩;refine A8 ?_
    skip
    exact BF (b6,bq,bc) trivial covZ selZ
  ·refine a_e rfl (BW (cs:=[int c.f,int c.t,int c.s,int c.e,int c.r,int c.g,int c.l]) rfl rfl rfl rfl rfl oneZ hfl rfl) rfl rfl rfl (by rintro _ _ ⟨b,rfl,rfl⟩ w hw; exact hw.tail) ?_
   rintro _ _ ⟨bc,rfl,rfl⟩;refine C4 ?_ ?_
   ·refine a_e rfl (D7 rfl rfl rfl rfl rfl rfl (by omega) (by omega)) rfl rfl rfl (by rintro _ _ ⟨b,rfl,rfl⟩ w hw; exact hw.tail) ?_
    rintro _ _ ⟨bq,rfl,rfl⟩;refine C6 ?_;refine B5 ?_; rintro _ _ ⟨b,rfl,rfl⟩
    revert b; intro b6
    refine BQ ?_;refine' CO rfl _ rfl rfl _ _
    rotate_left
    ·apply BA; exact rfl; exact rfl; exact takeZ; exact oneZ; exact rfl; exact rfl
    ·rintro _ _ ⟨_,rfl⟩ w hw; exact hw.sel Sel.nil
    rintro _ _ ⟨rfl,rfl⟩;refine A8 ?_
    skip
    exact BF (b6,bq,bc) trivial covZ selZ
   ·refine a_e rfl (C5 rfl) rfl rfl rfl (by rintro _ _ ⟨b,rfl,rfl⟩ w hw; exact hw.tail) ?_
    rintro _ _ ⟨b6,rfl,rfl⟩
    refine BQ (a_e rfl (D7 rfl rfl rfl rfl rfl rfl (by omega) (by omega)) rfl rfl rfl (by rintro _ _ ⟨b,rfl,rfl⟩ w hw; exact hw.tail) ?_)
    rintro _ _ ⟨bq,rfl,rfl⟩;refine C6 ?_;refine BQ ?_;refine' CO rfl _ rfl rfl _ _
    rotate_left
    ·apply BA; exact rfl; exact rfl; exact takeZ; exact oneZ; exact rfl; exact rfl
    ·rintro _ _ ⟨_,rfl⟩ w hw; exact hw.sel Sel.nil
    rintro _ _ ⟨rfl,rfl⟩;refine A8 ?_
    skip
    exact BF (b6,bq,bc) trivial covZ selZ
  ·refine a_e rfl (C5 rfl) rfl rfl rfl (by rintro _ _ ⟨b,rfl,rfl⟩ w hw; exact hw.tail) ?_
   rintro _ _ ⟨b6,rfl,rfl⟩;refine C4 ?_ ?_
   ·refine a_e rfl (D7 rfl rfl rfl rfl rfl rfl (by omega) (by omega)) rfl rfl rfl (by rintro _ _ ⟨b,rfl,rfl⟩ w hw; exact hw.tail) ?_
    rintro _ _ ⟨bq,rfl,rfl⟩
    refine BQ (a_e rfl (BW (cs:=[int c.f,int c.t,int c.s,int c.e,int c.r,int c.g,int c.l]) rfl rfl rfl rfl rfl oneZ hfl rfl) rfl rfl rfl (by rintro _ _ ⟨b,rfl,rfl⟩ w hw; exact hw.tail) ?_)
    rintro _ _ ⟨bc,rfl,rfl⟩;refine C6 ?_;refine BQ ?_;refine' CO rfl _ rfl rfl _ _
    rotate_left
    ·apply BA; exact rfl; exact rfl; exact takeZ; exact oneZ; exact rfl; exact rfl
    ·rintro _ _ ⟨_,rfl⟩ w hw; exact hw.sel Sel.nil
    rintro _ _ ⟨rfl,rfl⟩;refine A8 ?_
    skip
    exact BF (b6,bq,bc) trivial covZ selZ
   ·refine a_e rfl (BW (cs:=[int c.f,int c.t,int c.s,int c.e,int c.r,int c.g,int c.l]) rfl rfl rfl rfl rfl oneZ hfl rfl) rfl rfl rfl (by rintro _ _ ⟨b,rfl,rfl⟩ w hw; exact hw.tail) ?_
    rintro _ _ ⟨bc,rfl,rfl⟩
    refine BQ (a_e rfl (D7 rfl rfl rfl rfl rfl rfl (by omega) (by omega)) rfl rfl rfl (by rintro _ _ ⟨b,rfl,rfl⟩ w hw; exact hw.tail) ?_)
    rintro _ _ ⟨bq,rfl,rfl⟩;refine C6 ?_;refine BQ ?_;refine' CO rfl _ rfl rfl _ _
    rotate_left
    ·apply BA; exact rfl; exact rfl; exact takeZ; exact oneZ; exact rfl; exact rfl
    ·rintro _ _ ⟨_,rfl⟩ w hw; exact hw.sel Sel.nil
    rintro _ _ ⟨rfl,rfl⟩;refine A8 ?_
    skip
    exact BF (b6,bq,bc) trivial covZ selZ
 rintro ⟨b6,bq,bc⟩ _
 dsimp only
 have hn16:n≤16:=by omega
 refine AS (ρ:=sng b6 (.cells #[.slice (some ⟨bq,0,none⟩) n n,.slice (some ⟨bc,0,none⟩) 1 1] 33 (0,0))) takeZ ?_;refine AS (ρ:=sng bq (.cells (ints (List.replicate n 0)) 3 (0,0))) takeZ ?_;refine AS (ρ:=sng bc (.cells #[int c.f,int c.t,int c.s,int c.e,int c.r,int c.g,int c.l] 23 (0,0))) takeZ ?_
 have c6:=rdB b6 33 [.slice (some ⟨bq,0,none⟩) n n,.slice (some ⟨bc,0,none⟩) 1 1]
 have hqs:IntsAt (sng bq (.cells (ints (List.replicate n 0)) 3 (0,0))) (.slice (some ⟨bq,0,none⟩) (List.replicate n (0:Int)).length n) (List.replicate n 0):=intsAt_sng
 have hct:CtAt (sng bc (.cells #[int c.f,int c.t,int c.s,int c.e,int c.r,int c.g,int c.l] 23 (0,0))) (.slice (some ⟨bc,0,none⟩) [c].length 1) [c]:=slE_sng (c:=1) encC_len
 have hqn:(List.replicate n (0:Int)).length=n:=List.length_replicate
 refine Aal ?_;refine Aa ?_;refine A4 ?_; rintro _ _ ⟨b,rfl,rfl⟩;refine Acb ?_;refine Aad ?_;refine BN ?_; rintro _ _ ⟨b,rfl,rfl⟩;refine Aby ?_
 revert b; intro bd
 revert b; intro b8
 refine AS (ρ:=sng bd (.cells #[str dx,str dy] 9 (0,0))) takeZ ?_
 have bx707_3:=rdB bd 9 [str dx,str dy]
 have d0:=rdC bx707_3 0
 have d1:=rdC bx707_3 1
 refine CG ?_
 refine BU [2,3,5,6,8,83,84] (X:=Sa) ⟨0,[],.slice none 0 0,emp,0,0⟩ (fun z=>z.i≤2∧Ap c z.i z.l z.ea∧OwnS 48 4 z.u z.l.length (z.l.flatMap encB) z.s) (fun z=>[(85,int (z.i:Int)),(7,z.u)]) (fun z=>[sng b8 (.cells #[int z.ea,int z.eb] 35 (0,0)),z.s]) (fun z=>2-z.i) pickZ ⟨by dsimp only; omega,.inl ⟨rfl,rfl⟩,OwnS.nil _ _⟩ covZ selZ ?_
 rintro ⟨i,l,u,χ,ea,eb⟩ ⟨hi,hA,hO⟩
 dsimp only at hi hA hO ⊢
 obtain ⟨pb,kb,rfl⟩:=hO.form
 by_cases hlt:i<2
 rotate_left
 ·obtain rfl:i=2:=by omega
  refine Ab5 ?_;refine Aa ?_;refine AT haw rfl rfl rdZ rfl rfl ?_;rintro _ rfl;refine Aaa ?_;exact A9 ⟨rfl,rfl⟩
 have hll:l.length≤1:=by
  rcases hA with ⟨_,rfl⟩|⟨_,_,_,rfl,_⟩|h
  ·simp
  ·simp
  ·omega
 have hT:TbAt (sng bq (.cells (ints (List.replicate n 0)) 3 (0,0))) (sng bc (.cells #[int c.f,int c.t,int c.s,int c.e,int c.r,int c.g,int c.l] 23 (0,0))) χ χ (some ⟨bq,0,none⟩) (some ⟨bc,0,none⟩) pb none n 1 kb 0 (List.replicate n 0) [c] l []:=
  ⟨hqs,hct,by simp,by rw [hqn]; omega,by simp,hO.at,by omega,⟨rfl,.inl ⟨rfl,none,0,rfl⟩⟩,by simp⟩
 have hcase:i=0∨i=1:=by omega
 rcases hcase with rfl|rfl
 ·have hdu:=durC_bd (s:=(dx.length:Int)) hc ⟨by omega,by omega⟩
  have hfit:=saFit_spec hT rfl hc (dx.length:Int) ⟨by omega,by omega⟩
  rw [hqn] at hfit;refine Abn ?_;refine Aab ?_;refine DH ?_;refine AF ?_;refine Aaj ?_;refine Aau ?_;refine Aak ?_;refine AB ?_
  focus ((refine' BT _ rfl rfl rfl _; rotate_left; (apply B0; exact rfl; exact rfl)))
  refine AT hfit rfl rfl rdZ rfl rfl ?_;rintro _ (⟨hB,rfl⟩|⟨hB,hF,rfl⟩|⟨hB,bg,hF,rfl⟩)
  ·refine AB ?_
   refine Aax ?_;refine Aah ?_;refine C8 ?_;refine Acy ?_;refine AT haw rfl rfl rdZ rfl rfl ?_;rintro _ rfl;refine Aaa ?_;exact A9 ⟨rfl,rfl⟩
  ·refine AB ?_
   refine Aax ?_;refine Aah ?_;refine C8 ?_;refine Acy ?_;refine AT haw rfl rfl rdZ rfl rfl ?_;rintro _ rfl;refine Aaa ?_;exact A9 ⟨rfl,rfl⟩
  obtain ⟨k1,k2,k3,k4,k5,k6⟩:=ap_fit hc hA (by omega) hdu.1 hF 1
  have hpl:=chkB_pl hB
  have hfn:=pl_one hpl
  have hhop:=saHop_spec (q:=⟨c.f,c.t,dx.length,0,1099511627776,0,false⟩) hqs hct (by simp) (by rw [hqn]; omega) (by simp) hpl (by unfold okRq; dsimp only; omega) (i:=0) rfl bg k1 k2
  rw [hqn] at hhop
  dsimp only at hhop
  have hadd:=saAdd_spec (sng bq (.cells (ints (List.replicate n 0)) 3 (0,0))) (sng bc (.cells #[int c.f,int c.t,int c.s,int c.e,int c.r,int c.g,int c.l] 23 (0,0))) χ (some ⟨bq,0,none⟩) (some ⟨bc,0,none⟩) pb n 1 kb (List.replicate n 0) [c] l ⟨0,bg,bg+durC c dx.length,1⟩ hqs hct (by simp) (by rw [hqn]; omega) (by simp) hO.at (by omega) hB (ap_ok hc k1 k2 hdu.1 ⟨by omega,by omega⟩) (by omega) k4
  rw [hqn] at hadd
  dsimp only at hadd
  have hfr:=trFrames_spec (P:=⟨c,dx,bg+durC c dx.length,px,-1,[]⟩) (t0:=bg) (ρd:=ρx) (pq:=none) (cq:=0) hpx hrx (by show px.length≤1000; omega) ⟨rfl,.inl ⟨rfl,none,0,rfl⟩⟩ (by simp) (by show dx.length≤990; omega)
  dsimp only at hfr
  have hse:=ap_start (p:=px) hc k1 k2 ⟨by omega,by omega⟩
  generalize durC c (dx.length:Int)=DD at *
  refine Acz ?_;refine Aba ?_;refine Aau ?_;refine Aad ?_;refine Aad ?_;refine AB ?_
  focus ((refine' BT _ rfl rfl rfl _; rotate_left; (apply B0; exact rfl; exact rfl)))
  refine B6 ?_;refine AB ?_;refine AT hhop rfl rfl rdZ rfl rfl ?_;rintro _ rfl;refine Acq ?_;refine A4 ?_; rintro _ _ ⟨b,rfl,rfl⟩;refine AY ?_; rintro _ _ ⟨rfl,rfl⟩;refine Ac5 ?_;refine Ab3 ?_;refine AB ?_;refine BS ?_;refine B6 ?_;refine B8 hadd rfl rfl rdZ rfl rfl ?_;rintro _ χ2 ⟨u2,l2,rfl,hB2,hl2,hO2⟩;refine Acz ?_;refine BM ?_;refine Aao ?_;refine Adb ?_;refine Abi ?_;refine Aam ?_;refine Aad ?_;refine BN ?_; rintro _ _ ⟨b,rfl,rfl⟩;refine AB ?_;refine DH ?_;refine AF ?_;refine Ac5 ?_;refine Aad ?_;refine Aad ?_;refine Aao ?_;refine BI hfr rfl rfl Takes.nil rdZ rfl rfl ?_;rintro _ _ (⟨hE,_⟩|⟨_,hP,hok,s',⟨F,G,O,p0,p1,p2,p3,p4,p5,p6,c0,c1,c2,c3,c4,c5,c6'⟩,⟨σa,σb,σc,σd,σe,σf⟩,u',r1,i1,n1,hM,rfl,rfl⟩)
  ·exact absurd hse hE
  obtain ⟨x0,r0,ho0⟩:=first_sent hP hok r1
  obtain ⟨_,f1,_⟩:=RI.fin hP i1 n1
  have hMo:=hM.o0
  clear hM
  dsimp only at hMo ho0 f1 ⊢
  obtain ⟨_,_,e0,hR0⟩:=SlE.val (encO_len 0 dx) hMo.at
  simp only [Value.slice.injEq] at e0
  obtain ⟨rfl,_,rfl⟩:=e0
  have hln:0<s'.out0.length:=by rw [ho0]; simp
  have hll0:s'.out0.length≤10000:=by have:=i1.si.en; omega
  have hx0:s'.out0[0]?=some (bg+segT c.r ((x0.b-x0.a:Nat):Int),x0):=by rw [ho0]; rfl
  have hg0:=f1 _ (List.mem_of_getElem? hx0)
  obtain ⟨bo,oo,rfl,hRd0⟩:=hR0 0 _ hx0
  have hxl:=List.getElem?_eq_getElem (show s'.out0.length-1<s'.out0.length by omega)
  have hgl:=f1 _ (List.mem_of_getElem? hxl)
  generalize s'.out0[s'.out0.length-1]=xl at hxl hgl
  obtain ⟨bo',oo',e1,hRdl⟩:=hR0 _ _ hxl
  simp only [Option.some.injEq,Addr.mk.injEq,and_true] at e1
  obtain ⟨rfl,rfl⟩:=e1
  obtain ⟨_,_,⟨g1,g2,_,_,_⟩⟩:=hg0
  dsimp only at g1 g2
  have hcl:=cutD_len (Nat.le_of_lt g1) g2
  have hsp:=segT_pos hcr.1.1 (len:=((x0.b-x0.a:Nat):Int)) (by omega)
  have hsl:=segT_le hcr.1.1 (len:=((x0.b-x0.a:Nat):Int)) (by omega)
  have zz0:rdc σc bo oo=some (int (bg+segT c.r ((x0.b-x0.a:Nat):Int))):=by have h:=RdN.get0 hRd0; rw [Nat.zero_mul] at h; exact h
  have zz7:rdc σc bo (oo+1+6)=some (str (cutD dx x0.a x0.b)):=by have h:=hRd0 7 _ rfl; rw [show oo+0*9+7=oo+1+6 by omega] at h; exact h
  clear hMo hR0 hRd0 hfr hadd hhop hfit;refine Acq ?_;refine AJ ?_;refine AC ?_;refine Aaj ?_;refine Aah ?_;refine BM ?_;refine Aao ?_;refine BD ?_;refine B9 ?_;refine Aa4 ?_;refine AD ?_
  refine BB P8Z [] rfl (by kernel_rfl) Sel.nil ?_
  refine CJ rfl (ET rfl) rfl rfl rfl rfl ?_
  refine CJ rfl (FD rfl rfl rfl rfl (by omega)) rfl rfl rfl rfl ?_
  refine CJ rfl (EJ rfl rfl) rfl rfl rfl rfl ?_;refine CJ rfl (EJ rfl rfl) rfl rfl rfl rfl ?_;refine CJ rfl (EU rfl rfl (cellH zz7 memZ)) rfl rfl rfl rfl ?_;refine CJ rfl (B0 rfl rfl) rfl rfl rfl rfl ?_;rw [hcl];refine DI ?_;refine Aan ?_;refine DI ?_;refine EG ?_;refine Aan ?_;refine GJ ?_;refine Aaq ?_;refine Acv ?_;rw [segT_tick c]
  generalize segT c.r ((x0.b-x0.a:Nat):Int)=sg at *
  clear zz7
  skip
  refine BB P2Z [] rfl (by kernel_rfl) Sel.nil ?_
  refine AL ?_;refine D9 ?_;refine Acx ?_;refine Acj ?_;refine A8 ?_;clear zz0
  have zzl:rdc σc bo (oo+(s'.out0.length-1)*9)=some (int xl.1):=RdN.get0 hRdl
  refine Aaf ?_;refine AA ?_;refine Abq ?_;refine BD ?_;refine CK ?_;refine CA ?_;refine Ac8 ?_
  focus ((refine BT (E7 rfl rfl rfl rfl (by decide)) rfl rfl rfl ?_))
  refine BC ?_; rintro _ _ ⟨rfl,rfl⟩;refine Adp ?_
  exact BG ⟨1,l2,u2,χ2,xl.1,eb⟩ ⟨by dsimp only; omega,.inr (.inl ⟨rfl,bg+DD,1,by rw [hl2 (k5 rfl).2,(k5 rfl).1],by omega,hgl.2.1⟩),hO2⟩ (by dsimp only; omega) covZ selZ
 ·have hdu:=durC_bd (s:=(dy.length:Int)) hc ⟨by omega,by omega⟩
  have hfit:=saFit_spec hT rfl hc (dy.length:Int) ⟨by omega,by omega⟩
  rw [hqn] at hfit;refine Abn ?_;refine Aab ?_;refine DH ?_;refine AF ?_;refine Aaj ?_;refine Aau ?_;refine Aak ?_;refine AB ?_
  focus ((refine' BT _ rfl rfl rfl _; rotate_left; (apply B0; exact rfl; exact rfl)))
  refine AT hfit rfl rfl rdZ rfl rfl ?_;rintro _ (⟨hB,rfl⟩|⟨hB,hF,rfl⟩|⟨hB,bg,hF,rfl⟩)
  ·refine AB ?_
   refine Aax ?_;refine Aah ?_;refine C8 ?_;refine Acy ?_;refine AT haw rfl rfl rdZ rfl rfl ?_;rintro _ rfl;refine Aaa ?_;exact A9 ⟨rfl,rfl⟩
  ·refine AB ?_
   refine Aax ?_;refine Aah ?_;refine C8 ?_;refine Acy ?_;refine AT haw rfl rfl rdZ rfl rfl ?_;rintro _ rfl;refine Aaa ?_;exact A9 ⟨rfl,rfl⟩
  obtain ⟨k1,k2,k3,k4,k5,k6⟩:=ap_fit hc hA (by omega) hdu.1 hF 2
  have hpl:=chkB_pl hB
  have hfn:=pl_one hpl
  have hhop:=saHop_spec (q:=⟨c.f,c.t,dy.length,0,1099511627776,0,false⟩) hqs hct (by simp) (by rw [hqn]; omega) (by simp) hpl (by unfold okRq; dsimp only; omega) (i:=0) rfl bg k1 k2
  rw [hqn] at hhop
  dsimp only at hhop
  have hadd:=saAdd_spec (sng bq (.cells (ints (List.replicate n 0)) 3 (0,0))) (sng bc (.cells #[int c.f,int c.t,int c.s,int c.e,int c.r,int c.g,int c.l] 23 (0,0))) χ (some ⟨bq,0,none⟩) (some ⟨bc,0,none⟩) pb n 1 kb (List.replicate n 0) [c] l ⟨0,bg,bg+durC c dy.length,2⟩ hqs hct (by simp) (by rw [hqn]; omega) (by simp) hO.at (by omega) hB (ap_ok hc k1 k2 hdu.1 ⟨by omega,by omega⟩) (by omega) k4
  rw [hqn] at hadd
  dsimp only at hadd
  have hfr:=trFrames_spec (P:=⟨c,dy,bg+durC c dy.length,py,-1,[]⟩) (t0:=bg) (ρd:=ρx) (pq:=none) (cq:=0) hpy hry (by show py.length≤1000; omega) ⟨rfl,.inl ⟨rfl,none,0,rfl⟩⟩ (by simp) (by show dy.length≤990; omega)
  dsimp only at hfr
  have hse:=ap_start (p:=py) hc k1 k2 ⟨by omega,by omega⟩
  generalize durC c (dy.length:Int)=DD at *
  refine Acz ?_;refine Aba ?_;refine Aau ?_;refine Aad ?_;refine Aad ?_;refine AB ?_
  focus ((refine' BT _ rfl rfl rfl _; rotate_left; (apply B0; exact rfl; exact rfl)))
  refine B6 ?_;refine AB ?_;refine AT hhop rfl rfl rdZ rfl rfl ?_;rintro _ rfl;refine Acq ?_;refine A4 ?_; rintro _ _ ⟨b,rfl,rfl⟩;refine AY ?_; rintro _ _ ⟨rfl,rfl⟩;refine Ac5 ?_;refine Ab3 ?_;refine AB ?_;refine BS ?_;refine B6 ?_;refine B8 hadd rfl rfl rdZ rfl rfl ?_;rintro _ χ2 ⟨u2,l2,rfl,hB2,hl2,hO2⟩;refine Acz ?_;refine BM ?_;refine Aao ?_;refine Adb ?_;refine Abi ?_;refine Aam ?_;refine Aad ?_;refine BN ?_; rintro _ _ ⟨b,rfl,rfl⟩;refine AB ?_;refine DH ?_;refine AF ?_;refine Ac5 ?_;refine Aad ?_;refine Aad ?_;refine Aao ?_;refine BI hfr rfl rfl Takes.nil rdZ rfl rfl ?_;rintro _ _ (⟨hE,_⟩|⟨_,hP,hok,s',⟨F,G,O,p0,p1,p2,p3,p4,p5,p6,c0,c1,c2,c3,c4,c5,c6'⟩,⟨σa,σb,σc,σd,σe,σf⟩,u',r1,i1,n1,hM,rfl,rfl⟩)
  ·exact absurd hse hE
  obtain ⟨x0,r0,ho0⟩:=first_sent hP hok r1
  obtain ⟨_,f1,_⟩:=RI.fin hP i1 n1
  have hMo:=hM.o0
  clear hM
  dsimp only at hMo ho0 f1 ⊢
  obtain ⟨_,_,e0,hR0⟩:=SlE.val (encO_len 0 dy) hMo.at
  simp only [Value.slice.injEq] at e0
  obtain ⟨rfl,_,rfl⟩:=e0
  have hln:0<s'.out0.length:=by rw [ho0]; simp
  have hll0:s'.out0.length≤10000:=by have:=i1.si.en; omega
  have hx0:s'.out0[0]?=some (bg+segT c.r ((x0.b-x0.a:Nat):Int),x0):=by rw [ho0]; rfl
  have hg0:=f1 _ (List.mem_of_getElem? hx0)
  obtain ⟨bo,oo,rfl,hRd0⟩:=hR0 0 _ hx0
  have hxl:=List.getElem?_eq_getElem (show s'.out0.length-1<s'.out0.length by omega)
  have hgl:=f1 _ (List.mem_of_getElem? hxl)
  generalize s'.out0[s'.out0.length-1]=xl at hxl hgl
  obtain ⟨bo',oo',e1,hRdl⟩:=hR0 _ _ hxl
  simp only [Option.some.injEq,Addr.mk.injEq,and_true] at e1
  obtain ⟨rfl,rfl⟩:=e1
  obtain ⟨_,_,⟨g1,g2,_,_,_⟩⟩:=hg0
  dsimp only at g1 g2
  have hcl:=cutD_len (Nat.le_of_lt g1) g2
  have hsp:=segT_pos hcr.1.1 (len:=((x0.b-x0.a:Nat):Int)) (by omega)
  have hsl:=segT_le hcr.1.1 (len:=((x0.b-x0.a:Nat):Int)) (by omega)
  have zz0:rdc σc bo oo=some (int (bg+segT c.r ((x0.b-x0.a:Nat):Int))):=by have h:=RdN.get0 hRd0; rw [Nat.zero_mul] at h; exact h
  have zz7:rdc σc bo (oo+1+6)=some (str (cutD dy x0.a x0.b)):=by have h:=hRd0 7 _ rfl; rw [show oo+0*9+7=oo+1+6 by omega] at h; exact h
  clear hMo hR0 hRd0 hfr hadd hhop hfit;refine Acq ?_;refine AJ ?_;refine AC ?_;refine Aaj ?_;refine Aah ?_;refine BM ?_;refine Aao ?_;refine BD ?_;refine B9 ?_;refine Aa4 ?_;refine AD ?_
  refine BB P8Z [] rfl (by kernel_rfl) Sel.nil ?_
  refine CJ rfl (ET rfl) rfl rfl rfl rfl ?_
  refine CJ rfl (FD rfl rfl rfl rfl (by omega)) rfl rfl rfl rfl ?_
  refine CJ rfl (EJ rfl rfl) rfl rfl rfl rfl ?_;refine CJ rfl (EJ rfl rfl) rfl rfl rfl rfl ?_;refine CJ rfl (EU rfl rfl (cellH zz7 memZ)) rfl rfl rfl rfl ?_;refine CJ rfl (B0 rfl rfl) rfl rfl rfl rfl ?_;rw [hcl];refine DI ?_;refine Aan ?_;refine DI ?_;refine EG ?_;refine Aan ?_;refine GJ ?_;refine Aaq ?_;refine Acv ?_;rw [segT_tick c]
  generalize segT c.r ((x0.b-x0.a:Nat):Int)=sg at *
  clear zz7
  have k3:=k3 rfl
  refine BB P2Z [] rfl (by kernel_rfl) Sel.nil ?_
  refine AL ?_;refine ED ?_;refine Abp ?_;refine CE ?_;refine Ac1 ?_;refine AL ?_;refine EG ?_
  focus ((refine CJ rfl (E7 rfl rfl rfl rfl (by decide)) rfl rfl rfl rfl ?_))
  refine AX ?_;refine DR ?_;refine BY ?_;refine A8 ?_;clear zz0
  have zzl:rdc σc bo (oo+(s'.out0.length-1)*9)=some (int xl.1):=RdN.get0 hRdl
  refine Aaf ?_;refine AA ?_;refine Abq ?_;refine BD ?_;refine CK ?_;refine CA ?_;refine Ac8 ?_
  focus ((refine BT (F7 rfl rfl rfl rfl (by decide)) rfl rfl rfl ?_))
  refine BC ?_; rintro _ _ ⟨rfl,rfl⟩;refine Adp ?_
  exact BG ⟨2,l2,u2,χ2,ea,xl.1⟩ ⟨by dsimp only; omega,.inr (.inr rfl),hO2⟩ (by dsimp only; omega) covZ selZ
end Go.Proofs.YtekcielcagdcmaaGreatDoor
namespace Go.Eng
open Go.ChangeShapes Go.WideShapes Go.RowKit
variable {P:Program} {W:World} {t:TypeId}
end Go.Eng
namespace Go.Proofs.YtekcielcagdcmaaGreatDoor
open Go.Eng Go.Step
set_option maxRecDepth 100000
set_option maxHeartbeats 64000000
open Go.ChangeShapes Go.WideShapes Go.ChangeAt Go.RowKit
theorem Tryz.ownSa:ownKnob Tryz.prog.godebug=none:=by kernel_rfl
theorem Tryz.laidOutSa:laidOutB Tryz.prog=true:=by kernel_rfl
theorem saCase_of {W:World} {r:Reach} {base:Nat} {v0:Value} (hv:Value.okWide Tryz.prog W r base 27 v0) (h:RdT Tryz.prog W 27 v0.cells.toList):∃ (x:Ct) (w1 w2 w3:Int) (d:List UInt8) (q ra:Option Addr) (k m u:Nat) (l:List Int),v0=.agg #[int x.f,int x.t,int x.s,int x.e,int x.r,int x.g,int x.l,int w1,int w2,str d,.slice q l.length k,int w3,.slice ra m u]∧IntsAt (heapPH W) (.slice q l.length k) l∧(∀ x∈l,-9223372036854775808≤x∧x≤9223372036854775807)∧l.length≤9223372036854775807:=by
 obtain ⟨cs,rfl⟩:=okWide_agg Tryz.underlying27 hv
 obtain ⟨h1,hs⟩:=h.struct Tryz.underlying27
 have hc:Tryz.prog.cellsOf 27=13:=by kernel_rfl
 rw [hc] at h1
 obtain ⟨x⟩:=cs
 match x,h1 with
 | [c0,c1,c2,c3,c4,c5,c6,c7,c8,c9,c10,c11,c12],_ =>
  have k:Tryz.prog.cellsOf 3=1:=by kernel_rfl
  have kc:Tryz.prog.cellsOf 23=7:=by kernel_rfl
  have hct:RdT Tryz.prog W 23 ((([c0,c1,c2,c3,c4,c5,c6,c7,c8,c9,c10,c11,c12]:List Value).drop 0).take (Tryz.prog.cellsOf 23)):=hs 0 _ rfl
  rw [kc] at hct
  have hct:RdT Tryz.prog W 23 [c0,c1,c2,c3,c4,c5,c6]:=hct
  obtain ⟨x0,e0,_⟩:=(hct.fld1 Tryz.underlying23 0 rfl rfl rfl k rfl).i64 Tryz.underlying3
  obtain ⟨x1,e1,_⟩:=(hct.fld1 Tryz.underlying23 1 rfl rfl rfl k rfl).i64 Tryz.underlying3
  obtain ⟨x2,e2,_⟩:=(hct.fld1 Tryz.underlying23 2 rfl rfl rfl k rfl).i64 Tryz.underlying3
  obtain ⟨x3,e3,_⟩:=(hct.fld1 Tryz.underlying23 3 rfl rfl rfl k rfl).i64 Tryz.underlying3
  obtain ⟨x4,e4,_⟩:=(hct.fld1 Tryz.underlying23 4 rfl rfl rfl k rfl).i64 Tryz.underlying3
  obtain ⟨x5,e5,_⟩:=(hct.fld1 Tryz.underlying23 5 rfl rfl rfl k rfl).i64 Tryz.underlying3
  obtain ⟨x6,e6,_⟩:=(hct.fld1 Tryz.underlying23 6 rfl rfl rfl k rfl).i64 Tryz.underlying3
  obtain ⟨w1,e7,_⟩:=(h.fld1 Tryz.underlying27 1 rfl rfl rfl k rfl).i64 Tryz.underlying3
  obtain ⟨w2,e8,_⟩:=(h.fld1 Tryz.underlying27 2 rfl rfl rfl k rfl).i64 Tryz.underlying3
  obtain ⟨⟨⟨d⟩⟩,e9,_⟩:=(h.fld1 Tryz.underlying27 3 rfl rfl rfl (by kernel_rfl:Tryz.prog.cellsOf 9=1) rfl).str Tryz.underlying9
  obtain ⟨v,e10,l,g1,g2,g3⟩:=(h.fld1 Tryz.underlying27 4 rfl rfl rfl (by kernel_rfl:Tryz.prog.cellsOf 24=1) rfl).ints Tryz.underlying24 Tryz.underlying3 (by kernel_rfl)
  obtain ⟨w3,e11,_⟩:=(h.fld1 Tryz.underlying27 5 rfl rfl rfl k rfl).i64 Tryz.underlying3
  obtain ⟨v2,ra,u,e12,els,f1,_⟩:=(h.fld1 Tryz.underlying27 6 rfl rfl rfl (by kernel_rfl:Tryz.prog.cellsOf 25=1) rfl).slice Tryz.underlying25 (s:=2) (by kernel_rfl) (by omega)
  obtain ⟨q,kk,e13,_⟩:=g1.val Eng.encI_len
  simp at e0 e1 e2 e3 e4 e5 e6 e7 e8 e9 e10 e11 e12
  subst e0 e1 e2 e3 e4 e5 e6 e7 e8 e9 e10 e11 e12;subst e13;subst f1
  exact ⟨⟨x0,x1,x2,x3,x4,x5,x6⟩,w1,w2,w3,d,q,ra,kk,_,u,l,rfl,g1,g2,by simp only [maxLen] at g3; omega⟩
set_option maxRecDepth 100000 in
theorem topSessionsApart_lifted (os:Os) (started:os.Started) (H:Type) (enc:TypeId × Value→H) :
  ReturnsInHanded {} Tryz.checked os 3 .any (fun w args=>(Rows.topSessionsApartSpec.pre enc Tryz.prog Tryz.f3 [] false w args∧laidMetH Tryz.prog Rows.topSessionsApartRow.laid w)∧sizedMet enc Tryz.prog Tryz.f3 (OpenSpec.ofChange Rows.topSessionsApartSpec) false w args)
   (Rows.topSessionsApartSpec.post enc Tryz.prog Tryz.f3 false true false false):=by
 refine returnsInHanded_of_change_and (C:=Tryz.checked) (X:=fun w _=>laidMetH Tryz.prog Rows.topSessionsApartRow.laid w) (fun _ _ _ hh h=>h.of_heap hh) Tryz.ownSa started (by kernel_rfl) Tryz.func3
  (ChangeSpec.witness_shaped (enc:=enc) (C:=Tryz.checked) (os:=os) (X:=fun w _=>laidMetH Tryz.prog Rows.topSessionsApartRow.laid w) false (World.laidAll Tryz.prog os Rows.topSessionsApartRow.laid) #[.agg #[.int .i64 0,.int .i64 0,.int .i64 0,.int .i64 0,.int .i64 0,.int .i64 0,.int .i64 0,.int .i64 0,.int .i64 0,.string ⟨#[]⟩,.slice none 0 0,.int .i64 0,.slice none 0 0],.agg #[.int .i64 0,.int .i64 0,.int .i64 0,.int .i64 0,.int .i64 0,.int .i64 0,.int .i64 0,.int .i64 0,.int .i64 0,.string ⟨#[]⟩,.slice none 0 0,.int .i64 0,.slice none 0 0]] 8 (World.laidAll_os _ _ _)
   (World.shaped_of_ZipB (by kernel_rfl) (by kernel_rfl)) (by kernel_rfl) (by kernel_rfl) (by kernel_rfl)
   (by rw [MakeChecks.laidMetH_plain _ _ _ (by kernel_rfl)]; exact laidMet_laidAll _ (by kernel_rfl) (by kernel_rfl))) ?_
 intro W base args ds gs before hval0 hW _ _ _ _
 have hval:∀ (j:Nat) t v,Tryz.f3.params[j]?=some t→args[j]?=some v→Value.okWide Tryz.prog W .any base t v:=hval0
 have hW':=hW
 obtain ⟨p,q,hA0,hV,rfl,hfz,hnd⟩:=hW
 have hA:DataW.TrodAll enc Tryz.prog W 0 (fun _=>true) true Tryz.f3.params.toList args.toList ds p:=hA0
 rw [Tryz.params3] at hA hval
 obtain ⟨v0,vs0,d0,ds0,p0,q0,hargs,rfl,rfl,h0,r0⟩:=trodAll_cons hA
 obtain ⟨v1,vs1,d1,ds1,p1,q1,rfl,rfl,rfl,h1,r1⟩:=trodAll_cons r0
 obtain ⟨rfl,rfl,rfl⟩:=trodAll_nil r1
 obtain rfl:args = #[v0,v1]:=by cases args; simp_all
 obtain ⟨rfl,rfl⟩:=trodVars_none hV
 have lt0:∀ x∈p0,x.block<W.heap.size:=by obtain ⟨m,hm⟩:=h0; exact DataW.trod_lt m _ _ _ hm
 have lt1:∀ x∈p1,x.block<W.heap.size:=by obtain ⟨m,hm⟩:=h1; exact DataW.trod_lt m _ _ _ hm
 have hlaw:Ans Tryz.prog (fv 3) [v0,v1] [heapPH W] (fun v=>v=.bool true):=by
  obtain ⟨x,w1,w2,w3,dx,qx,rx,kx,mx,ux,px,rfl,ax,bx,cx⟩:=saCase_of (hval 0 _ v0 rfl rfl) (RdT.of h0)
  obtain ⟨y,w4,w5,w6,dy,qy,ry,ky,my,uy,py,rfl,ay,by',cy⟩:=saCase_of (hval 1 _ v1 rfl rfl) (RdT.of h1)
  exact (apart_law x dx dy px py ax ay bx by' cx cy).rsub (fun _ h=>by simpa using h)
 refine (law_calls Tryz.func3 rfl rfl hlaw).mono fun e W' ⟨he,bel⟩=>?_
 subst he
 exact ⟨_,rfl,_,_,_,[],_,[],hW',trodAll_mk1 (shut_bool Tryz.underlying4 _),(trodAll_cons_mk (Below.trod Tryz.laidOutSa (by kernel_rfl) (of_decide_eq_true (by kernel_rfl)) h0 bel lt0) (trodAll_cons_mk (Below.trod Tryz.laidOutSa (by kernel_rfl) (of_decide_eq_true (by kernel_rfl)) h1 bel lt1) trodAll_mk0)),rfl,bel.frame _,fun h=>by cases h⟩
end Go.Proofs.YtekcielcagdcmaaGreatDoor
namespace Go.Proofs.YtekcielcagdcmaaGreatDoor
open Go.Eng Go.Step
set_option maxRecDepth 100000
set_option maxHeartbeats 64000000
open Go.ChangeShapes Go.WideShapes Go.ChangeAt Go.RowKit

theorem apart_inPlace : Rows.topSessionsApartRow.inPlace = Tryz.prog.inPlace 3 := by kernel_rfl
theorem apart_unfollowed : Tryz.prog.unfollowed 3 = true := by kernel_rfl
theorem apart_recurses : Tryz.prog.recurses 3 = true := by kernel_rfl
theorem apart_named : Rows.topSessionsApartRow.named = Tryz.prog.varsNamed 3 := by kernel_rfl
theorem apart_func : Tryz.prog.funcNamed "mailboat/mailboattop.TopSessionsApart" = some 3 := by kernel_rfl
theorem apart_joined : joinedFacts Tryz.prog 3 Tryz.f3 Rows.topSessionsApartSpec Rows.topSessionsApartRow = true := by
 unfold joinedFacts;rw [← apart_inPlace, apart_unfollowed, apart_recurses, ← apart_named]
 kernel_rfl
theorem topSessionsApart_holds : Rows.TopSessionsApartSaid :=
 OpenClaim.holds_of_wide 3 Tryz.f3 rfl rfl rfl rfl rfl rfl rfl ⟨rfl, rfl, rfl, rfl, rfl⟩ rfl rfl rfl rfl rfl apart_func Tryz.func3 apart_joined
  (of_decide_eq_true (by kernel_rfl)) (by unfold Func.isWrapper; first | (rw [if_pos (by decide +kernel)]; kernel_rfl) | (rw [if_neg (by decide +kernel)]; exact ⟨rfl, rfl⟩))
  (fun os started H enc _ => topSessionsApart_lifted os started H enc)
theorem topSessionsApartCard_holds : Rows.TopSessionsApartCardSaid :=
 Claim7.holds_tied_plain_at .later [] [.data, .pinned] true (true, "fae4f8f6dddf9e1fe781e335ffd8bab1c4562f64e3c515997dc2109ba81bd03f") true topSessionsApart_holds (fun _ h => by cases h) (by as_aux_lemma => kernel_rfl) (fun _ h => by cases h) topSessionsApart_row_tie rfl ⟨rfl, rfl⟩ (by as_aux_lemma => kernel_rfl) rfl
  (fun f fn hf hfn => by
   obtain rfl : f = 3 := Option.some.inj (apart_func.symm.trans hf) |>.symm
   obtain rfl : fn = Tryz.f3 := (Option.some.inj (Tryz.func3.symm.trans hfn)).symm
   exact ⟨by as_aux_lemma => kernel_rfl, fun j t ht => by
    rw [Tryz.params3] at ht
    have hm : t ∈ [27, 27] := by simpa using Array.mem_of_getElem? ht
    have hall : ([27, 27].all fun u => !Tryz.prog.wantsStandIn u) = true := by kernel_rfl
    exact (show Tryz.prog.wantsStandIn t = false by simpa using List.all_eq_true.1 hall t hm)⟩)
  (by as_aux_lemma => kernel_rfl)
end Go.Proofs.YtekcielcagdcmaaGreatDoor
