/- Texts of this proof, one after the other; no conditions. -/
import Derived.Test.YtjopknnkcnehmaaGreatDoorProg
import Derived.Test.YtjopknnkcnehmaaGreatDoorWB9
import Derived.Test.YtjopknnkcnehmaaGreatDoorWB2
import Derived.Test.YtjopknnkcnehmaaGreatDoorWB1
import Derived.Test.YtjopknnkcnehmaaGreatDoorWB3
import Derived.Test.YtjopknnkcnehmaaGreatDoorWB8
set_option linter.all false
/- Records wrapped and unwrapped. -/
namespace Go.Proofs.YtjopknnkcnehmaaGreatDoor
open Go.Eng Go.Step
set_option maxRecDepth 100000
set_option maxHeartbeats 64000000
theorem rpSeal_len (x:Rep):2≤(sealM x.text).length∧(sealM x.text).length≤130:=by
 have h1:=vText_len x.text
 have h2:=vInt_len x.text.length
 have h3:=x.text_len
 unfold sealM;rw [List.length_append,h1]
 show 2≤_+4∧_+4≤130
 omega
def rpBn (x:Rep) (l:Nat):Bn:=⟨x.n,x.m,0,0,x.a,l,sealM x.text⟩
theorem rpBn_ok {x:Rep} (hx:x.ok) {l:Nat} (h1:1≤l) (h2:x.m+l≤1099511627776):(rpBn x l).ok:=by
 have hl:=rpSeal_len x
 unfold Rep.ok at hx;unfold rpBn Bn.ok
 dsimp only
 omega
theorem rpWrap_spec {x:Rep} (hx:x.ok) {l:Nat} (h1:1≤l) (h2:x.m+l≤1099511627776):Ans Tryz.prog (fv 6) [.agg #[int (x.k:Int),int (x.a:Int),int (x.c:Int),int (x.q:Int),int (x.o:Int),int (x.t:Int),int (x.n:Int),int (x.m:Int),int (x.r:Int)],int 7,int (l:Int)] [] (fun r=>r=.tuple #[.agg #[int (x.n:Int),int (x.m:Int),int 7,int 0,int 0,int 1,int (x.a:Int),int (l:Int),int 1,int 6,.slice none 0 0,str (sealM x.text)],int 0]):=by
 have hen:=rpEncode_spec hx
 have w1:=rpWithin_spec (n:=7) (lo:=0) (hi:=1099511627776) ⟨by omega,by omega⟩
 have w2:=rpWithin_spec (n:=(l:Int)) (lo:=1) (hi:=1099511627776-(x.m:Int)) ⟨by omega,by omega⟩
 unfold Rep.ok at hx
 refine spec_in (cap:=[]) Tryz.func6 rfl rfl Tryz.ntmps6 rfl envZ (fun N β=>?_)
 refine Aa ?_;refine A9 (BK rfl) rfl rfl rfl ?_;rintro _ _ ⟨b3,rfl,rfl⟩;refine AZ (ρ:=sng b3 (.cells #[int (x.k:Int),int (x.a:Int),int (x.c:Int),int (x.q:Int),int (x.o:Int),int (x.t:Int),int (x.n:Int),int (x.m:Int),int (x.r:Int)] 25 (0,0))) takeZ ?_
 have bx35_3:=rdB b3 25 [int (x.k:Int),int (x.a:Int),int (x.c:Int),int (x.q:Int),int (x.o:Int),int (x.t:Int),int (x.n:Int),int (x.m:Int),int (x.r:Int)]
 have c0:=rdC bx35_3 0
 have c1:=rdC bx35_3 1
 have c2:=rdC bx35_3 2
 have c3:=rdC bx35_3 3
 have c4:=rdC bx35_3 4
 have c5:=rdC bx35_3 5
 have c6:=rdC bx35_3 6
 have c7:=rdC bx35_3 7
 have c8:=rdC bx35_3 8
 have cw:=rdB b3 25 [int (x.k:Int),int (x.a:Int),int (x.c:Int),int (x.q:Int),int (x.o:Int),int (x.t:Int),int (x.n:Int),int (x.m:Int),int (x.r:Int)]
 refine A9 (BP rfl) rfl rfl rfl ?_;rintro _ _ ⟨b6,rfl,rfl⟩;refine Aaa ?_;refine Aat ?_
 focus ((refine AL hen rfl rfl rdZ rfl rfl ?_; rintro _ rfl))
 refine Aa2 ?_;refine Aam ?_;refine Aba ?_;refine Aab ?_
 focus ((refine AL w1 rfl rfl rdZ rfl rfl ?_; rintro _ rfl))
 refine AY ?_;refine AB ?_;refine Aah ?_;refine CR ?_
 focus ((refine AL w2 rfl rfl rdZ rfl rfl ?_; rintro _ rfl))
 refine Ab5 ?_;refine Aak ?_;refine Aac ?_;refine AB ?_;refine B0 ?_;refine AF ?_;refine DW ?_;refine AG ?_;refine B0 ?_;refine Aan ?_
 focus ((refine BB (A8 (out:=[int (x.n:Int),int (x.m:Int),int 7,int 0,int 0,int 1,int (x.a:Int),int (l:Int),int 1,int 6,.slice none 0 0,str (sealM x.text)]) rfl rfl rfl rfl rfl) rfl rfl rfl ?_))
 refine A4 ?_; rintro _ _ ⟨rfl,rfl⟩;refine Aaa ?_;exact AP (resSE (b1:=b6) (T:=34) (v1:=[int (x.n:Int),int (x.m:Int),int 7,int 0,int 0,int 1,int (x.a:Int),int (l:Int),int 1,int 6,.slice none 0 0,str (sealM x.text)]) rfl rfl rfl rfl rfl (cells_own memZ)) rsubZ selZ ⟨rfl,rfl⟩
theorem rpWanted_spec {x:Bn} (hx:x.ok) {k:Nat} (hk:k≤6):Ans Tryz.prog (fv 8) [.agg #[int (x.a:Int),int (x.c:Int),int 7,int (x.o:Int),int (x.t:Int),int 1,int (x.n:Int),int (x.l:Int),int 1,int 4,.slice none 0 0,str x.d],int (k:Int)] [] (fun r=>r=.bool false):=by
 have hck:=bnCheck_spec hx
 refine spec_in (cap:=[]) Tryz.func8 rfl rfl Tryz.ntmps8 rfl envZ (fun N β=>?_)
 refine Aa ?_;refine A9 (BK rfl) rfl rfl rfl ?_;rintro _ _ ⟨b2,rfl,rfl⟩;refine AZ (ρ:=sng b2 (.cells #[int (x.a:Int),int (x.c:Int),int 7,int (x.o:Int),int (x.t:Int),int 1,int (x.n:Int),int (x.l:Int),int 1,int 4,.slice none 0 0,str x.d] 34 (0,0))) takeZ ?_
 have bx111_3:=rdB b2 34 [int (x.a:Int),int (x.c:Int),int 7,int (x.o:Int),int (x.t:Int),int 1,int (x.n:Int),int (x.l:Int),int 1,int 4,.slice none 0 0,str x.d]
 have c0:=rdC bx111_3 0
 have c1:=rdC bx111_3 1
 have c2:=rdC bx111_3 2
 have c3:=rdC bx111_3 3
 have c4:=rdC bx111_3 4
 have c5:=rdC bx111_3 5
 have c6:=rdC bx111_3 6
 have c7:=rdC bx111_3 7
 have c8:=rdC bx111_3 8
 have c9:=rdC bx111_3 9
 have c10:=rdC bx111_3 10
 have c11:=rdC bx111_3 11
 have cw:=rdB b2 34 [int (x.a:Int),int (x.c:Int),int 7,int (x.o:Int),int (x.t:Int),int 1,int (x.n:Int),int (x.l:Int),int 1,int 4,.slice none 0 0,str x.d]
 refine Aaa ?_;refine Aa ?_
 focus ((refine BB (CZ (s:=1) (out:=[int 0,int 8,int 8,int 16,int 32,int 1,int 1]) rfl rfl rfl rfl rfl) rfl rfl rfl ?_))
 refine BG ?_; rintro _ _ ⟨b,rfl,rfl⟩;refine A4 ?_; rintro _ _ ⟨rfl,rfl⟩;refine Abx ?_;refine BM ?_;refine Aan ?_;refine DA ?_;refine Abo ?_;refine AR ?_
 focus ((refine AL hck rfl rfl rdZ rfl rfl ?_; rintro _ rfl))
 refine A5 ?_;refine Abg ?_
 focus ((refine BB (CA (k:=.i64) (a:=4) (b:=4) (c:=4) rfl rfl (by decide) (by decide) rfl rfl) rfl rfl rfl ?_))
 refine DU ?_;refine AK ?_;refine Aau ?_;refine Aaw ?_;exact A2 ⟨rfl,rfl⟩
theorem rpUnwrap_spec {x:Rep} (hx:x.ok) {l:Nat} (h1:1≤l) (h2:x.m+l≤1099511627776):Ans Tryz.prog (fv 12) [.agg #[int (x.n:Int),int (x.m:Int),int 7,int 0,int 0,int 1,int (x.a:Int),int (l:Int),int 1,int 4,.slice none 0 0,str (sealM x.text)]] [] (fun r=>r=.tuple #[.agg #[int (x.k:Int),int (x.a:Int),int (x.c:Int),int (x.q:Int),int (x.o:Int),int (x.t:Int),int (x.n:Int),int (x.m:Int),int (x.r:Int)],int 0]):=by
 have hck0:=bnCheck_spec (rpBn_ok hx h1 h2)
 unfold rpBn at hck0
 dsimp only at hck0
 have hck:Ans Tryz.prog (fv 19) [.agg #[int (x.n:Int),int (x.m:Int),int 7,int 0,int 0,int 1,int (x.a:Int),int (l:Int),int 1,int 4,.slice none 0 0,str (sealM x.text)]] [] (fun r=>r=int 0):=hck0
 clear hck0
 have hde:=rpDecode_spec hx
 generalize sealM x.text=S at *
 refine spec_in (cap:=[]) Tryz.func12 rfl rfl Tryz.ntmps12 rfl envZ (fun N β=>?_)
 refine Aa ?_;refine A9 (BK rfl) rfl rfl rfl ?_;rintro _ _ ⟨b1,rfl,rfl⟩;refine AZ (ρ:=sng b1 (.cells #[int (x.n:Int),int (x.m:Int),int 7,int 0,int 0,int 1,int (x.a:Int),int (l:Int),int 1,int 4,.slice none 0 0,str S] 34 (0,0))) takeZ ?_
 have bx173_3:=rdB b1 34 [int (x.n:Int),int (x.m:Int),int 7,int 0,int 0,int 1,int (x.a:Int),int (l:Int),int 1,int 4,.slice none 0 0,str S]
 have c0:=rdC bx173_3 0
 have c1:=rdC bx173_3 1
 have c2:=rdC bx173_3 2
 have c3:=rdC bx173_3 3
 have c4:=rdC bx173_3 4
 have c5:=rdC bx173_3 5
 have c6:=rdC bx173_3 6
 have c7:=rdC bx173_3 7
 have c8:=rdC bx173_3 8
 have c9:=rdC bx173_3 9
 have c10:=rdC bx173_3 10
 have c11:=rdC bx173_3 11
 have cw:=rdB b1 34 [int (x.n:Int),int (x.m:Int),int 7,int 0,int 0,int 1,int (x.a:Int),int (l:Int),int 1,int 4,.slice none 0 0,str S]
 have cq:RdP (sng b1 (.cells #[int (x.n:Int),int (x.m:Int),int 7,int 0,int 0,int 1,int (x.a:Int),int (l:Int),int 1,int 4,.slice none 0 0,str S] 34 (0,0))) b1 5 [int 1,int (x.a:Int)]:=rdP_sng (k:=5) (xs:=[int (x.n:Int),int (x.m:Int),int 7,int 0,int 0,int 1,int (x.a:Int),int (l:Int),int 1,int 4,.slice none 0 0,str S]) rfl
 refine A9 (BP rfl) rfl rfl rfl ?_;rintro _ _ ⟨b2,rfl,rfl⟩;refine Abt ?_
 focus ((refine AL hck rfl rfl rdZ rfl rfl ?_; rintro _ rfl))
 refine Aba ?_;refine Aak ?_
 focus ((refine BB (CA (k:=.i64) (a:=4) (b:=4) (c:=4) rfl rfl (by decide) (by decide) rfl rfl) rfl rfl rfl ?_))
 refine B9 ?_;refine Aaf ?_;refine Aak ?_
 focus ((refine AL hde rfl rfl rdZ rfl rfl ?_; rintro _ rfl))
 refine Aaq ?_;refine BG ?_; rintro _ _ ⟨b,rfl,rfl⟩;refine A4 ?_; rintro _ _ ⟨rfl,rfl⟩;refine Aam ?_;refine Aba ?_;refine Abr ?_;refine Aac ?_;refine A5 ?_;refine AB ?_;refine Aay ?_;refine Aac ?_;refine A5 ?_;refine Abo ?_;refine AF ?_;refine AR ?_;refine AF ?_;refine DW ?_;refine AG ?_;refine B0 ?_
 focus ((refine' BB _ rfl rfl rfl _; rotate_left; (apply FS [1,(x.a:Int)]; exact rfl; exact rfl; exact rfl; kernel_rfl; kernel_rfl; kernel_rfl)))
 refine Aao ?_;refine Aat ?_;refine A4 ?_; rintro _ _ ⟨rfl,rfl⟩;refine Aaa ?_;exact AP (resSE (b1:=b2) (T:=25) (v1:=[int (x.k:Int),int (x.a:Int),int (x.c:Int),int (x.q:Int),int (x.o:Int),int (x.t:Int),int (x.n:Int),int (x.m:Int),int (x.r:Int)]) rfl rfl rfl rfl rfl (cells_own memZ)) rsubZ selZ ⟨rfl,rfl⟩
def encS (x:Int × Int):List Value:=[int x.1,int x.2]
theorem encS_len (x:Int × Int):(encS x).length=2:=rfl
abbrev SpAt (ρ:PH) (v:Value) (l:List (Int × Int)):Prop:=SlE encS 2 ρ v l
theorem spRow {ρ:PH} {p:Option Addr} {l:List (Int × Int)} (h:RowsE encS 2 ρ p l) {i:Nat} {x:Int × Int} (hx:l[i]?=some x) :
  ∃ b o,p=some ⟨b,o,none⟩∧RdN ρ b (o+i*2) [int x.1,int x.2]∧rdc ρ b (o+i*2)=some (int x.1)∧rdc ρ b (o+i*2+1)=some (int x.2):=by
 obtain ⟨b,o,e,hr⟩:=h i x hx
 exact ⟨b,o,e,hr,hr.get0,hr.get (j:=1) rfl⟩
theorem ivValid_spec (x:Int × Int):Ans Tryz.prog (fv 122) [.agg #[int x.1,int x.2]] [] (fun r=>r=.bool (decide (okSp x))):=by
 refine spec_in (cap:=[]) Tryz.func122 rfl rfl Tryz.ntmps122 rfl envZ (fun N β=>?_)
 by_cases h1:x.1<x.2
 ·by_cases h2:-1152921504606846976≤x.1
  ·by_cases h3:x.2≤1152921504606846976
   ·rw [decide_eq_true (show okSp x from ⟨h1,h2,h3⟩)]
    refine Aa ?_;refine CJ ?_; rintro _ _ ⟨b,rfl,rfl⟩;refine Aaa ?_;refine Aak ?_;refine Aac ?_;refine CM ?_;refine Aah ?_;refine DO ?_;refine AX ?_;refine Aah ?_;refine EY ?_;refine Abv ?_;exact A2 ⟨rfl,rfl⟩
   ·rw [decide_eq_false (fun h:okSp x=>h3 h.2.2)]
    refine Aa ?_;refine CJ ?_; rintro _ _ ⟨b,rfl,rfl⟩;refine Aaa ?_;refine Aak ?_;refine Aac ?_;refine CM ?_;refine Aah ?_;refine DO ?_;refine AX ?_;refine Aah ?_;refine D8 ?_;refine Abv ?_;exact A2 ⟨rfl,rfl⟩
  ·rw [decide_eq_false (fun h:okSp x=>h2 h.2.1)]
   refine Aa ?_;refine CJ ?_; rintro _ _ ⟨b,rfl,rfl⟩;refine Aaa ?_;refine Aak ?_;refine Aac ?_;refine CM ?_;refine Aah ?_;refine DA ?_;refine AX ?_;refine Aa9 ?_;refine AK ?_;refine Aaa ?_;exact A2 ⟨rfl,rfl⟩
 ·rw [decide_eq_false (fun h:okSp x=>h1 h.1)]
  refine Aa ?_;refine CJ ?_; rintro _ _ ⟨b,rfl,rfl⟩;refine Aaa ?_;refine Aak ?_;refine Aac ?_;refine BM ?_;refine Aa9 ?_;refine AK ?_;refine Aa9 ?_;refine AK ?_;refine Aaa ?_;exact A2 ⟨rfl,rfl⟩
theorem ivCheck_spec (ρ:PH) (v:Value) (l:List (Int × Int)) (hv:SpAt ρ v l) (hl:l.length≤9223372036854775807) :
  Ans Tryz.prog (fv 85) [v] [ρ] (fun r=>r=int (chkI l)):=by
 obtain ⟨q,c,rfl,hr⟩:=hv.val encS_len
 refine spec_in (cap:=[]) Tryz.func85 rfl rfl Tryz.ntmps85 rfl envZ (fun N β=>?_)
 unfold chkI
 by_cases hbig:1000<l.length
 ·rw [if_pos hbig]
  refine Ab3 ?_;refine BT ?_;refine C1 ?_;refine Aau ?_;refine Aaw ?_;exact A2 ⟨rfl,rfl⟩
 rw [if_neg hbig];refine Ab3 ?_;refine BT ?_;refine BZ ?_;refine Aax ?_;refine Aab ?_;refine Acf ?_
 refine BQ [0,8,9] (0:Nat) (fun k=>k≤l.length∧firstE (spE l) k=0) (fun k=>[(10,int k)]) (fun _=>[]) (fun k=>l.length-k) pickZ ⟨by omega,rfl⟩ covZ selZ ?_
 rintro k ⟨hk,hI⟩
 by_cases hlt:k<l.length
 ·have hx:=List.getElem?_eq_getElem hlt
  obtain ⟨b4,o4,rfl,hrd,g0,g1⟩:=spRow hr hx
  have hE:=spE_at hx
  generalize l[k]=x at hrd g0 g1 hE
  refine Ac ?_;refine Aab ?_;refine C7 ?_;refine AR ?_;refine BG ?_; rintro _ _ ⟨b,rfl,rfl⟩;refine AC ?_;refine A4 ?_; rintro _ _ ⟨rfl,rfl⟩;refine Aal ?_;refine Aat ?_
  revert b; intro b6
  refine AL (ivValid_spec x) rfl rfl rdZ rfl rfl ?_;rintro _ rfl
  by_cases hok:okSp x
  rotate_left
  ·rw [if_pos hok] at hE
   have hh:=firstE_hit hI (by rw [hE]; decide) _ hlt
   rw [hh,hE,decide_eq_false hok];refine AY ?_;refine Aau ?_;refine Aaw ?_;exact A2 ⟨rfl,rfl⟩
  rw [if_neg (fun h=>h hok)] at hE
  rw [decide_eq_true hok];refine AY ?_;refine Aax ?_
  refine BH P1Z [sng b6 _] rfl (by kernel_rfl) selZ ?_
  by_cases h0:k=0
  ·subst h0
   rw [if_neg (by omega)] at hE
   refine AS ?_;refine EO ?_;refine AS ?_;refine Aav ?_;refine Aav ?_;refine Aav ?_;refine Aav ?_;refine BS rfl rfl rfl rfl rfl ?_;refine B8 ?_;refine Abp ?_;refine Abl ?_
   exact BJ (0+1) ⟨by omega,firstE_ok hI hE⟩ (by omega) covZ selZ
  ·have hx':=List.getElem?_eq_getElem (show k-1<l.length by omega)
   obtain ⟨_,_,e,_,p0,p1⟩:=spRow hr hx'
   simp only [Option.some.injEq,Addr.mk.injEq,and_true] at e
   obtain ⟨rfl,rfl⟩:=e
   rw [List.getD_eq_getElem?_getD,hx',Option.getD_some] at hE
   generalize l[k-1]=p at p0 p1 hE
   by_cases h9:x.1≤p.2
   ·rw [if_pos ⟨by omega,h9⟩] at hE
    have hh:=firstE_hit hI (by rw [hE]; decide) _ hlt
    rw [hh,hE];refine AS ?_;refine FJ ?_;refine AS ?_;refine Aaj ?_;refine AS ?_;refine AS ?_;refine CY ?_;refine C8 ?_;refine D6 ?_;refine AW ?_;refine zd_le ?_;refine C9 ?_;refine A7 ?_;refine A3 rfl ?_;refine Aaw ?_;exact A2 ⟨rfl,rfl⟩
   ·rw [if_neg (fun h=>h9 h.2)] at hE
    refine AS ?_;refine FJ ?_;refine AS ?_;refine Aaj ?_;refine AS ?_;refine AS ?_;refine CY ?_;refine C8 ?_;refine D6 ?_;refine AW ?_;refine zd_leF ?_;refine C9 ?_;refine Abp ?_;refine Abl ?_
    exact BJ (k+1) ⟨by omega,firstE_ok hI hE⟩ (by omega) covZ selZ
 have hke:k=l.length:=by omega
 subst hke;rw [hI];refine Abd ?_;refine Aaw ?_;exact A2 ⟨rfl,rfl⟩
end Go.Proofs.YtjopknnkcnehmaaGreatDoor
namespace Go.Eng
variable {C:Cx} {D:List Deferred} {R H Hf:List PH} {L:Env} {K:List It} {ps ls:List Nat}
theorem Quiet.perm {H':List PH} {o:Oper} {v:Value} (hp:H'.Perm H) (h:Quiet C R H L o v):Quiet C R H' L o v:=⟨h.1,fun a w hx hs=>h.2 a w hx (hs.perm hp)⟩
theorem DP {H':List PH} {all:Array Oper} {done:List Nat} {plan:Pl} (hp:H.Perm H') (h:DJ C D R Hf H' L all done ps ls plan K):DJ C D R Hf H L all done ps ls plan K:=by
  refine ⟨fun hpl fuel listed a w hinv=>h.run hpl fuel listed a w ⟨hinv.size,hinv.dc,hinv.sub,hinv.fuel,hinv.tm,hinv.df,hinv.sat.perm hp,hinv.get,fun i hi hn=>?_,fun w hw=>hinv.hf w (hw.perm hp.symm),hinv.lds,hinv.data,hinv.uniq,hinv.chron⟩⟩
  obtain ⟨o,d,v,h1,h2,h3,h4,h5⟩:=hinv.prom i hi hn
  refine ⟨o,d,v,h1,h2,h3,h4,?_⟩
  rcases h5 with ⟨k1,k2⟩|k
  · refine .inl ⟨k1,?_⟩
    split at k2
    · rename_i c; rw [if_pos c]; exact k2
    · rename_i c; rw [if_neg c]; exact k2.perm hp.symm
  · exact .inr k
end Go.Eng
namespace Go.Proofs.YtjopknnkcnehmaaGreatDoor
open Go.Eng Go.Step
set_option maxRecDepth 100000
set_option maxHeartbeats 64000000
end Go.Proofs.YtjopknnkcnehmaaGreatDoor
namespace Go.Step
theorem oddB_cases (p:Nat):(oddB p=true∧p=2*(p / 2)+1)∨(oddB p=false∧p=2*(p / 2)):=by
  unfold oddB
  by_cases h:p % 2=1
  · exact .inl ⟨decide_eq_true h,by omega⟩
  · exact .inr ⟨decide_eq_false h,by omega⟩
def nxtT (A B:List Int) (p q:Nat):Int:=if p<A.length then (if q<B.length∧B.getD q 0<A.getD p 0 then B.getD q 0 else A.getD p 0) else B.getD q 0
def stp (A:List Int) (t:Int) (p:Nat):Nat:=if p<A.length∧A.getD p 0=t then p+1 else p
theorem stp_le {A:List Int} {t:Int} {p:Nat} (h:p≤A.length):p≤stp A t p∧stp A t p≤A.length:=by
  unfold stp
  split <;> omega
theorem drop_at {A:List Int} {p:Nat} (h:p<A.length):A.drop p=A.getD p 0::A.drop (p+1):=by
  rw [List.drop_eq_getElem_cons h,List.getD_eq_getElem?_getD,List.getElem?_eq_getElem h]; rfl
theorem mrg_cc (a:Int) (A:List Int) (p:Bool) (b:Int) (B:List Int) (q:Bool):mrg (a::A) p (b::B) q=if a<b then (a,!p,q)::mrg A (!p) (b::B) q else if b<a then (b,p,!q)::mrg (a::A) p B (!q) else (a,!p,!q)::mrg A (!p) B (!q):=by
  conv=>lhs; unfold mrg
theorem mrg_cn (a:Int) (A:List Int) (p q:Bool):mrg (a::A) p [] q=(a,!p,q)::mrg A (!p) [] q:=by
  conv=>lhs; unfold mrg
theorem mrg_nc (b:Int) (B:List Int) (p q:Bool):mrg [] p (b::B) q=(b,p,!q)::mrg [] p B (!q):=by
  conv=>lhs; unfold mrg
theorem mrg_at {A B:List Int} {p q:Nat} (hp:p≤A.length) (hq:q≤B.length) (h:p<A.length∨q<B.length) :
    mrg (A.drop p) (oddB p) (B.drop q) (oddB q)=(nxtT A B p q,oddB (stp A (nxtT A B p q) p),oddB (stp B (nxtT A B p q) q))::mrg (A.drop (stp A (nxtT A B p q) p)) (oddB (stp A (nxtT A B p q) p)) (B.drop (stp B (nxtT A B p q) q)) (oddB (stp B (nxtT A B p q) q)):=by
  by_cases h1:p<A.length
  · by_cases h2:q<B.length
    · rw [drop_at h1,drop_at h2,mrg_cc]
      by_cases c1:A.getD p 0<B.getD q 0
      · have e:nxtT A B p q=A.getD p 0:=by unfold nxtT; rw [if_pos h1,if_neg (by omega)]
        have e1:stp A (A.getD p 0) p=p+1:=by unfold stp; rw [if_pos ⟨h1,rfl⟩]
        have e2:stp B (A.getD p 0) q=q:=by unfold stp; rw [if_neg (by omega)]
        rw [if_pos c1,e,e1,e2,oddB_succ,drop_at h2]
      · by_cases c2:B.getD q 0<A.getD p 0
        · have e:nxtT A B p q=B.getD q 0:=by unfold nxtT; rw [if_pos h1,if_pos ⟨h2,c2⟩]
          have e1:stp A (B.getD q 0) p=p:=by unfold stp; rw [if_neg (by omega)]
          have e2:stp B (B.getD q 0) q=q+1:=by unfold stp; rw [if_pos ⟨h2,rfl⟩]
          rw [if_neg c1,if_pos c2,e,e1,e2,oddB_succ,drop_at h1]
        · have e:nxtT A B p q=A.getD p 0:=by unfold nxtT; rw [if_pos h1,if_neg (by omega)]
          have e1:stp A (A.getD p 0) p=p+1:=by unfold stp; rw [if_pos ⟨h1,rfl⟩]
          have e2:stp B (A.getD p 0) q=q+1:=by unfold stp; rw [if_pos ⟨h2,by omega⟩]
          rw [if_neg c1,if_neg c2,e,e1,e2,oddB_succ,oddB_succ]
    · have hq2:q=B.length:=by omega
      subst hq2
      have e:nxtT A B p B.length=A.getD p 0:=by unfold nxtT; rw [if_pos h1,if_neg (by omega)]
      have e1:stp A (A.getD p 0) p=p+1:=by unfold stp; rw [if_pos ⟨h1,rfl⟩]
      have e2:stp B (A.getD p 0) B.length=B.length:=by unfold stp; rw [if_neg (by omega)]
      rw [drop_at h1,List.drop_length,e,e1,e2,oddB_succ,List.drop_length,mrg_cn]
  · have hp2:p=A.length:=by omega
    subst hp2
    have h2:q<B.length:=by omega
    have e:nxtT A B A.length q=B.getD q 0:=by unfold nxtT; rw [if_neg h1]
    have e1:stp A (B.getD q 0) A.length=A.length:=by unfold stp; rw [if_neg (by omega)]
    have e2:stp B (B.getD q 0) q=q+1:=by unfold stp; rw [if_pos ⟨h2,rfl⟩]
    rw [drop_at h2,List.drop_length,e,e1,e2,oddB_succ,List.drop_length,mrg_nc]
theorem stp_go {A B:List Int} {p q:Nat} (h:p<A.length∨q<B.length):p<stp A (nxtT A B p q) p∨q<stp B (nxtT A B p q) q:=by
  by_cases h1:p<A.length
  · by_cases h2:q<B.length∧B.getD q 0<A.getD p 0
    · have e:nxtT A B p q=B.getD q 0:=by unfold nxtT; rw [if_pos h1,if_pos h2]
      right; rw [e]; unfold stp; rw [if_pos ⟨h2.1,rfl⟩]; omega
    · have e:nxtT A B p q=A.getD p 0:=by unfold nxtT; rw [if_pos h1,if_neg h2]
      left; rw [e]; unfold stp; rw [if_pos ⟨h1,rfl⟩]; omega
  · have e:nxtT A B p q=B.getD q 0:=by unfold nxtT; rw [if_neg h1]
    right; rw [e]; unfold stp; rw [if_pos ⟨by omega,rfl⟩]; omega
theorem mrg_len:∀ (n:Nat) (A:List Int) (p:Bool) (B:List Int) (q:Bool),A.length+B.length≤n→(mrg A p B q).length≤A.length+B.length
  | n,[],p,[],q,_=>by unfold mrg; simp
  | 0,a::A,p,B,q,h=>by simp at h
  | 0,[],p,b::B,q,h=>by simp at h
  | n+1,a::A,p,[],q,h=>by
    rw [mrg_cn]
    have:=mrg_len n A (!p) [] q (by simp at h ⊢; omega)
    simp at this ⊢
    omega
  | n+1,[],p,b::B,q,h=>by
    rw [mrg_nc]
    have:=mrg_len n [] p B (!q) (by simp at h ⊢; omega)
    simp at this ⊢
    omega
  | n+1,a::A,p,b::B,q,h=>by
    rw [mrg_cc]
    have h1:=mrg_len n A (!p) (b::B) q (by simp at h ⊢; omega)
    have h2:=mrg_len n (a::A) p B (!q) (by simp at h ⊢; omega)
    have h3:=mrg_len n A (!p) B (!q) (by simp at h ⊢; omega)
    simp at h1 h2 h3
    split
    · simp; omega
    · split <;> simp <;> omega
theorem mcomb1_len (f:Bool→Bool→Bool) (O:List Int) (e:Int × Bool × Bool):(mcomb1 f O e).length≤O.length+1:=by
  unfold mcomb1
  split
  · omega
  · simp
theorem mcomb_len (f:Bool→Bool→Bool):∀ (S:List (Int × Bool × Bool)) (O:List Int),(mcomb f S O).length≤O.length+S.length
  | [],O=>by simp [mcomb]
  | e::S,O=>by
    have h1:=mcomb_len f S (mcomb1 f O e)
    have h2:=mcomb1_len f O e
    show (mcomb f S (mcomb1 f O e)).length≤_
    simp
    omega
theorem mcomb_next (f:Bool→Bool→Bool) {S:List (Int × Bool × Bool)} {i:Nat} {e:Int × Bool × Bool} (h:S[i]?=some e) (O:List Int):mcomb f (S.take (i+1)) O=mcomb1 f (mcomb f (S.take i) O) e:=by
  obtain ⟨hi,rfl⟩:=List.getElem?_eq_some_iff.1 h
  rw [List.take_succ_eq_append_getElem hi];unfold mcomb;rw [List.foldl_append]
  rfl
theorem mrg_end {A B:List Int} {p q:Bool}:mrg (A.drop A.length) p (B.drop B.length) q=[]:=by
  rw [List.drop_length,List.drop_length];unfold mrg
  rfl
theorem drop_head {α:Type} {S:List α} {k:Nat} {x:α} {r:List α} (h:S.drop k=x::r):S[k]?=some x∧S.drop (k+1)=r∧k<S.length:=by
  have hk:k<S.length:=by
    apply Nat.lt_of_not_le
    intro hc
    rw [List.drop_eq_nil_of_le hc] at h
    simp at h
  rw [List.drop_eq_getElem_cons hk,List.cons.injEq] at h
  exact ⟨by rw [List.getElem?_eq_getElem hk,h.1],h.2,hk⟩
end Go.Step
namespace Go.Eng
variable {C:Cx} {D:List Deferred} {R H:List PH} {L:Env} {K:List It}
end Go.Eng
namespace Go.Proofs.YtjopknnkcnehmaaGreatDoor
open Go.Eng Go.Step
set_option maxRecDepth 100000
set_option maxHeartbeats 64000000
theorem sideNext_spec (ρ:PH) (v:Value) (l:Iv) (b p:Nat) (hv:SpAt ρ v l) (hl:l.length≤4611686018427387903) (hp:p≤2*l.length) :
  Ans Tryz.prog (fv 180) [.pointer (some ⟨b,0,none⟩)] [sng b (.cells #[v,int ((p / 2:Nat):Int),.bool (oddB p)] 300 (0,0)),ρ] (fun r=>r=.tuple #[int ((tog l).getD p 0),.bool (decide (p<2*l.length))]):=by
 obtain ⟨q,c,rfl,hr⟩:=hv.val encS_len
 have hod:=oddB_cases p
 obtain ⟨i,hi⟩:∃ i,p / 2=i:=⟨_,rfl⟩
 rw [hi] at hod ⊢
 have ct:=rdB b 300 [.slice q l.length c,int ((i:Nat):Int),.bool (oddB p)]
 have ct0:=rdC ct 0
 have ct1:=rdC ct 1
 have ct2:=rdC ct 2
 refine spec_in (cap:=[]) Tryz.func180 rfl rfl Tryz.ntmps180 rfl envZ (fun N β=>?_)
 by_cases h0:p=2*l.length
 ·have hR:(tog l).getD p 0=0:=by rw [List.getD_eq_getElem?_getD,List.getElem?_eq_none (by rw [tog_len]; omega)]; rfl
  rw [hR,decide_eq_false (by omega)]
  have hil:i=l.length:=by omega
  refine Abi ?_;refine Ab4 ?_;refine AD ?_
  refine BH P0Z [] rfl (by kernel_rfl) selZ ?_
  refine Ab2 ?_;refine C0 ?_;refine zd_eq ?_;refine Abn ?_;refine A3 rfl ?_;refine Aa ?_;refine Abf ?_;exact AP (res2 rfl rfl rfl) rsubZ selZ ⟨rfl,rfl⟩
 have hil:i<l.length:=by omega
 obtain ⟨g1,g2⟩:=tog_get l i _ (List.getElem?_eq_getElem hil)
 rw [decide_eq_true (show p<2*l.length by omega)]
 obtain ⟨b4,o4,rfl,hrd,x0,x1⟩:=spRow hr (List.getElem?_eq_getElem hil)
 rcases hod with ⟨ho,hp2⟩|⟨ho,hp2⟩
 ·have hR:(tog l).getD p 0=l[i].2:=by rw [List.getD_eq_getElem?_getD,hp2,g2]; rfl
  rw [hR];rw [ho] at ct ct0 ct1 ct2 ⊢
  generalize l[i]=x at hrd x0 x1
  refine Abi ?_;refine Ab4 ?_;refine AD ?_
  refine BH P0Z [] rfl (by kernel_rfl) selZ ?_
  refine Ab2 ?_;refine C0 ?_;refine D7 ?_;refine Abn ?_;refine AJ rfl ?_;refine Aab ?_;refine Aa5 ?_;refine Aaa ?_;refine A3 rfl ?_;refine AD ?_
  refine BH P1Z [] rfl (by kernel_rfl) selZ ?_
  refine Ab2 ?_;refine C8 ?_;refine D6 ?_;refine AW ?_;refine BD ?_;refine Abn ?_
  skip
  exact AP (res2 rfl rfl rfl) rsubZ selZ ⟨rfl,rfl⟩
 ·have hR:(tog l).getD p 0=l[i].1:=by rw [List.getD_eq_getElem?_getD,hp2,g1]; rfl
  rw [hR];rw [ho] at ct ct0 ct1 ct2 ⊢
  generalize l[i]=x at hrd x0 x1
  refine Abi ?_;refine Ab4 ?_;refine AD ?_
  refine BH P0Z [] rfl (by kernel_rfl) selZ ?_
  refine Ab2 ?_;refine C0 ?_;refine D7 ?_;refine Abn ?_;refine AJ rfl ?_;refine Aab ?_;refine Aa5 ?_;refine Aaa ?_;refine Aad ?_;refine BE ?_;refine AD ?_
  refine BH P1Z [] rfl (by kernel_rfl) selZ ?_
  refine Ab2 ?_;refine C8 ?_;refine EM ?_;refine AW ?_;refine BD ?_;refine Abn ?_
  skip
  exact AP (res2 rfl rfl rfl) rsubZ selZ ⟨rfl,rfl⟩
theorem sidePass_spec (ρ:PH) (v:Value) (l:Iv) (b p:Nat) (t:Int) (hv:SpAt ρ v l) (hl:l.length≤4611686018427387903) (hp:p≤2*l.length) :
  Eng.Spec Tryz.prog (fv 181) [.pointer (some ⟨b,0,none⟩),int t] [ρ] [sng b (.cells #[v,int ((p / 2:Nat):Int),.bool (oddB p)] 300 (0,0))] (fun r H'=>r=.tuple #[]∧H'=[sng b (.cells #[v,int ((stp (tog l) t p / 2:Nat):Int),.bool (oddB (stp (tog l) t p))] 300 (0,0))]):=by
 have hn:=sideNext_spec ρ v l b p hv hl hp
 obtain ⟨q,c,rfl,hr⟩:=hv.val encS_len
 refine spec_in (cap:=[]) Tryz.func181 rfl rfl Tryz.ntmps181 rfl envZ (fun N β=>?_)
 refine Ab ?_;refine AL hn rfl rfl rdZ rfl rfl ?_;rintro _ rfl
 by_cases h1:p<2*l.length
 rotate_left
 ·have hs:stp (tog l) t p=p:=by unfold stp; rw [if_neg (by rw [tog_len]; omega)]
  rw [hs,decide_eq_false h1];refine Aby ?_;refine AY ?_;refine Aa9 ?_;refine AX ?_;refine Aau ?_;exact AP (res0 rfl) rsubZ selZ ⟨rfl,rfl⟩
 rw [decide_eq_true h1]
 by_cases h2:(tog l).getD p 0=t
 rotate_left
 ·have hs:stp (tog l) t p=p:=by unfold stp; rw [if_neg (fun h=>h2 h.2)]
  rw [hs]
  generalize (tog l).getD p 0=z at h2
  refine Aby ?_;refine AY ?_;refine Abw ?_;refine DU ?_;refine AK ?_;refine Aau ?_;exact AP (res0 rfl) rsubZ selZ ⟨rfl,rfl⟩
 have hs:stp (tog l) t p=p+1:=by unfold stp; rw [if_pos ⟨by rw [tog_len]; exact h1,h2⟩]
 rw [hs,h2]
 have hod:=oddB_cases p
 have hi2:(p+1) / 2=if oddB p=true then p / 2+1 else p / 2:=by
  rcases hod with ⟨ho,hp2⟩|⟨ho,hp2⟩
  ·rw [if_pos ho]; omega
  ·rw [if_neg (by rw [ho]; simp)]; omega
 rw [hi2,oddB_succ]
 obtain ⟨i,hi⟩:∃ i,p / 2=i:=⟨_,rfl⟩
 rw [hi] at hod ⊢;clear hn
 rcases hod with ⟨ho,hp2⟩|⟨ho,hp2⟩
 ·rw [ho,if_pos rfl]
  refine Aby ?_;refine AY ?_;refine Abw ?_;refine Abs ?_;refine Ab ?_;refine Aa5 ?_;refine Aau ?_;refine Ab7 ?_;refine Aa5 ?_;refine B6 ?_;refine Abj ?_;refine A6 ?_; rintro _ _ ⟨rfl,rfl⟩;refine AE ?_;refine AA ?_;refine Aan ?_;refine Aa5 ?_;refine AY ?_;refine Abj ?_;refine A6 ?_; rintro _ _ ⟨rfl,rfl⟩;refine AE ?_;exact CC (res0 rfl) rsubZ selZ ⟨rfl,rfl⟩
 ·rw [ho,if_neg (by simp)]
  refine Aby ?_;refine AY ?_;refine Abw ?_;refine Abs ?_;refine Ab ?_;refine Aa5 ?_;refine Aaf ?_;refine AA ?_;refine Aan ?_;refine Aa5 ?_;refine AY ?_;refine Abj ?_;refine A6 ?_; rintro _ _ ⟨rfl,rfl⟩;refine AE ?_;exact CC (res0 rfl) rsubZ selZ ⟨rfl,rfl⟩
def encPt (x:Int × Bool × Bool):List Value:=[int x.1,.agg #[.bool x.2.1,.bool x.2.2]]
theorem points_iter (ρ τ:PH) (va vb:Value) (a b:Iv) (b1 b2:Nat) (ha:SpAt ρ va a) (hb:SpAt τ vb b) (hla:a.length≤1000000) (hlb:b.length≤1000000) :
  Iter Tryz.prog (.func (.func 179) #[] #[.pointer (some ⟨b1,0,none⟩),.pointer (some ⟨b2,0,none⟩)]) [sng b1 (.cells #[va] 93 (0,0)),sng b2 (.cells #[vb] 93 (0,0)),ρ,τ] ((mrg (tog a) false (tog b) false).map encPt):=by
 intro y S Own Inv Stop Ry hy hyl σ0 hI0
 obtain ⟨yl,rfl⟩:=hyl
 have hna:=fun bx p hp=>sideNext_spec ρ va a bx p ha (by omega) hp
 have hnb:=fun bx p hp=>sideNext_spec τ vb b bx p hb (by omega) hp
 have hpa:=fun bx p t hp=>sidePass_spec ρ va a bx p t ha (by omega) hp
 have hpb:=fun bx p t hp=>sidePass_spec τ vb b bx p t hb (by omega) hp
 obtain ⟨qa,ca,rfl,hra⟩:=ha.val encS_len
 obtain ⟨qb,cb,rfl,hrb⟩:=hb.val encS_len
 have bx20_3:=rdB b1 93 [.slice qa a.length ca]
 have c1:=rdC bx20_3 0
 have bx21_3:=rdB b2 93 [.slice qb b.length cb]
 have c2:=rdC bx21_3 0
 have la:=tog_len a
 have lb:=tog_len b
 simp only [List.cons_append,List.nil_append]
 refine spec_in (cap:=[.pointer (some ⟨b1,0,none⟩),.pointer (some ⟨b2,0,none⟩)]) Tryz.func179 rfl rfl Tryz.ntmps179 rfl envZ (fun N β=>?_)
 refine AD ?_
 refine E0 (X:=Nat × Nat) [0,1,2] (fun _=>True) (fun x=>[(4,.pointer (some ⟨x.1,0,none⟩)),(5,.pointer (some ⟨x.2,0,none⟩))]) (fun x=>sng x.2 (.cells #[.slice qb b.length cb,int ((0 / 2:Nat):Int),.bool (oddB 0)] 300 (0,0))::sng x.1 (.cells #[.slice qa a.length ca,int ((0 / 2:Nat):Int),.bool (oddB 0)] 300 (0,0))::Own σ0) pickZ ?_ ?_
 ·refine BH (.q 0 (.q 1 (.q 3 (.q 4 (.l2 2 .e (.q 6 (.l 5 .e (.q 7 .nil))) 5 .e (.l 2 .e (.q 6 (.q 7 .nil)))))))) [] rfl (by kernel_rfl) Sel.nil ?_
  repeat' (first
   | (refine BD ?_)
   | (refine AW ?_)
   | (refine D9 ?_)
   | (refine A7 ?_)
   | (refine CH ?_ ?_)
   | (refine FM ?_; rintro _ _ ⟨b,rfl,rfl⟩)
   | (refine FL ?_; rintro _ _ ⟨b,rfl,rfl⟩)
   | fail)
  ·refine BL (_,_) trivial covZ ?_
   exact Sel.refl
  ·refine FE (List.Perm.swap _ _ _) ?_
   refine BL (_,_) trivial covZ ?_;exact Sel.refl
 rintro ⟨bx,by_⟩ _
 dsimp only
 refine AV ?_
 refine BQ [0,1,2,4,5] (X:=Nat × Nat × Nat × S) (0,0,0,σ0) (fun x=>x.1≤(mrg (tog a) false (tog b) false).length∧x.2.1≤2*a.length∧x.2.2.1≤2*b.length∧(mrg (tog a) false (tog b) false).drop x.1=mrg ((tog a).drop x.2.1) (oddB x.2.1) ((tog b).drop x.2.2.1) (oddB x.2.2.1)∧Inv x.1 x.2.2.2) (fun _=>[]) (fun x=>sng by_ (.cells #[.slice qb b.length cb,int ((x.2.2.1 / 2:Nat):Int),.bool (oddB x.2.2.1)] 300 (0,0))::sng bx (.cells #[.slice qa a.length ca,int ((x.2.1 / 2:Nat):Int),.bool (oddB x.2.1)] 300 (0,0))::Own x.2.2.2) (fun x=>(2*a.length-x.2.1)+(2*b.length-x.2.2.1)) pickZ ⟨by dsimp only; omega,by dsimp only; omega,by dsimp only; omega,rfl,hI0⟩ covZ Sel.refl ?_
 rintro ⟨k,p,q,σ'⟩ ⟨hk,hp,hq,hS,hI⟩
 dsimp only at hk hp hq hS hI ⊢
 have h1:=hna bx p hp
 have h2:=hnb by_ q hq
 refine AV ?_;refine Aab ?_;refine AL h1 rfl rfl rdZ rfl rfl ?_;rintro _ rfl;refine Aby ?_;refine AL h2 rfl rfl rdZ rfl rfl ?_;rintro _ rfl
 generalize hm:(tog a).getD p 0=m
 generalize hn:(tog b).getD q 0=n
 by_cases h1:p<2*a.length
 ·rw [decide_eq_true h1]
  by_cases h2:q<2*b.length∧n<m
  ·have hX:nxtT (tog a) (tog b) p q=n:=by unfold nxtT; rw [if_pos (by omega),if_pos (by rw [hm,hn]; omega),hn]
   rw [decide_eq_true h2.1]
   have h2n:=h2.2
   have hlive:p<(tog a).length∨q<(tog b).length:=by omega
   have hS':=mrg_at (by omega) (by omega) hlive
   have hgo:=stp_go hlive
   rw [hX] at hS' hgo;rw [← hS] at hS'
   obtain ⟨g1,g2,g3⟩:=drop_head hS'
   have p1:=stp_le (A:=tog a) (t:=n) (p:=p) (by omega)
   have q1:=stp_le (A:=tog b) (t:=n) (p:=q) (by omega)
   have hy1:=hy k σ' (encPt (n,oddB (stp (tog a) n p),oddB (stp (tog b) n q))) (by rw [List.getElem?_map,g1]; rfl) hI
   have k1:=hpa bx p n hp
   have k2:=hpb by_ q n hq
   generalize stp (tog a) n p=p' at g2 hy1 k1 p1 hgo
   generalize stp (tog b) n q=q' at g2 hy1 k2 q1 hgo
   refine Aa2 ?_;refine Acg ?_;refine Aa0 ?_;refine Aao ?_;refine Aab ?_;refine Acg ?_;refine Aan ?_;refine Abw ?_;refine CM ?_;refine AX ?_;refine AK ?_;refine Aau ?_;refine Ab7 ?_;refine Aai ?_;refine AB ?_;refine BF k1 rfl rfl takesZ rdZ rfl rfl ?_;rintro _ _ ⟨rfl,rfl⟩;refine Abb ?_;refine AB ?_;refine BF k2 rfl rfl takesZ rdZ rfl rfl ?_;rintro _ _ ⟨rfl,rfl⟩;refine Aal ?_
   refine BH (.q 0 (.q 1 (.q 2 (.q 3 (.q 4 (.q 5 (.q 6 (.q 7 (.q 8 (.q 9 (.q 10 (.l 11 .b (.q 12 .nil))))))))))))) [] rfl (by kernel_rfl) Sel.nil ?_
   refine AS ?_;refine AS ?_;refine Ab2 ?_
   focus ((refine' BR rfl _ rfl rfl rfl rfl _; rotate_left; (focus (apply CT; exact rfl; exact rfl; exact rfl; exact rfl; exact rfl; exact rfl; exact rfl))))
   refine BV (DM rfl hy1 rfl rfl (Takes.skip (Takes.skip Takes.all)) (fun τ hτ=>.inl (by simp [hτ])) rfl rfl (fun _ _ _ w hw=>hw.sel Sel.nil) ?_)
   rintro _ H' ⟨σ1,rfl,⟨rfl,hI1⟩|⟨rfl,hSt⟩⟩
   ·refine DP (H':=_::_::Own σ1) (List.perm_append_comm (l₂:=[_,_])) ?_
    refine CQ ?_;refine Abp ?_;refine BE ?_
    exact BJ (k+1,p',q',σ1) ⟨by dsimp only; omega,by dsimp only; omega,by dsimp only; omega,g2,hI1⟩ (by dsimp only; omega) covZ Sel.refl
   ·refine CQ ?_
    refine A7 ?_;refine A3 rfl ?_
    exact AP (res0 rfl) (fun _ h=>h) Sel.left ⟨σ1,rfl,.inr hSt⟩
  ·have hX:nxtT (tog a) (tog b) p q=m:=by unfold nxtT; rw [if_pos (by omega),if_neg (by rw [hm,hn]; omega),hm]
   by_cases h3:q<2*b.length
   ·rw [decide_eq_true h3]
    have h2n:¬ n<m:=fun h=>h2 ⟨h3,h⟩
    have hlive:p<(tog a).length∨q<(tog b).length:=by omega
    have hS':=mrg_at (by omega) (by omega) hlive
    have hgo:=stp_go hlive
    rw [hX] at hS' hgo;rw [← hS] at hS'
    obtain ⟨g1,g2,g3⟩:=drop_head hS'
    have p1:=stp_le (A:=tog a) (t:=m) (p:=p) (by omega)
    have q1:=stp_le (A:=tog b) (t:=m) (p:=q) (by omega)
    have hy1:=hy k σ' (encPt (m,oddB (stp (tog a) m p),oddB (stp (tog b) m q))) (by rw [List.getElem?_map,g1]; rfl) hI
    have k1:=hpa bx p m hp
    have k2:=hpb by_ q m hq
    generalize stp (tog a) m p=p' at g2 hy1 k1 p1 hgo
    generalize stp (tog b) m q=q' at g2 hy1 k2 q1 hgo
    refine Aa2 ?_;refine Acg ?_;refine Aa0 ?_;refine Aao ?_;refine Aab ?_;refine Acg ?_;refine Aan ?_;refine Abw ?_;refine BM ?_;refine AX ?_;refine Aao ?_;refine Aca ?_;refine BF k1 rfl rfl takesZ rdZ rfl rfl ?_;rintro _ _ ⟨rfl,rfl⟩;refine Abb ?_;refine AB ?_;refine BF k2 rfl rfl takesZ rdZ rfl rfl ?_;rintro _ _ ⟨rfl,rfl⟩;refine Aal ?_
    refine BH (.q 0 (.q 1 (.q 2 (.q 3 (.q 4 (.q 5 (.q 6 (.q 7 (.q 8 (.q 9 (.q 10 (.l 11 .b (.q 12 .nil))))))))))))) [] rfl (by kernel_rfl) Sel.nil ?_
    refine AS ?_;refine AS ?_;refine Ab2 ?_
    focus ((refine' BR rfl _ rfl rfl rfl rfl _; rotate_left; (focus (apply CT; exact rfl; exact rfl; exact rfl; exact rfl; exact rfl; exact rfl; exact rfl))))
    refine BV (DM rfl hy1 rfl rfl (Takes.skip (Takes.skip Takes.all)) (fun τ hτ=>.inl (by simp [hτ])) rfl rfl (fun _ _ _ w hw=>hw.sel Sel.nil) ?_)
    rintro _ H' ⟨σ1,rfl,⟨rfl,hI1⟩|⟨rfl,hSt⟩⟩
    ·refine DP (H':=_::_::Own σ1) (List.perm_append_comm (l₂:=[_,_])) ?_
     refine CQ ?_;refine Abp ?_;refine BE ?_
     exact BJ (k+1,p',q',σ1) ⟨by dsimp only; omega,by dsimp only; omega,by dsimp only; omega,g2,hI1⟩ (by dsimp only; omega) covZ Sel.refl
    ·refine CQ ?_
     refine A7 ?_;refine A3 rfl ?_
     exact AP (res0 rfl) (fun _ h=>h) Sel.left ⟨σ1,rfl,.inr hSt⟩
   ·rw [decide_eq_false h3]
    have hlive:p<(tog a).length∨q<(tog b).length:=by omega
    have hS':=mrg_at (by omega) (by omega) hlive
    have hgo:=stp_go hlive
    rw [hX] at hS' hgo;rw [← hS] at hS'
    obtain ⟨g1,g2,g3⟩:=drop_head hS'
    have p1:=stp_le (A:=tog a) (t:=m) (p:=p) (by omega)
    have q1:=stp_le (A:=tog b) (t:=m) (p:=q) (by omega)
    have hy1:=hy k σ' (encPt (m,oddB (stp (tog a) m p),oddB (stp (tog b) m q))) (by rw [List.getElem?_map,g1]; rfl) hI
    have k1:=hpa bx p m hp
    have k2:=hpb by_ q m hq
    generalize stp (tog a) m p=p' at g2 hy1 k1 p1 hgo
    generalize stp (tog b) m q=q' at g2 hy1 k2 q1 hgo
    refine Aa2 ?_;refine Acg ?_;refine Aa0 ?_;refine Aao ?_;refine Aab ?_;refine Acg ?_;refine Aan ?_;refine Aa9 ?_;refine AK ?_;refine Aao ?_;refine Aca ?_;refine BF k1 rfl rfl takesZ rdZ rfl rfl ?_;rintro _ _ ⟨rfl,rfl⟩;refine Abb ?_;refine AB ?_;refine BF k2 rfl rfl takesZ rdZ rfl rfl ?_;rintro _ _ ⟨rfl,rfl⟩;refine Aal ?_
    refine BH (.q 0 (.q 1 (.q 2 (.q 3 (.q 4 (.q 5 (.q 6 (.q 7 (.q 8 (.q 9 (.q 10 (.l 11 .b (.q 12 .nil))))))))))))) [] rfl (by kernel_rfl) Sel.nil ?_
    refine AS ?_;refine AS ?_;refine Ab2 ?_
    focus ((refine' BR rfl _ rfl rfl rfl rfl _; rotate_left; (focus (apply CT; exact rfl; exact rfl; exact rfl; exact rfl; exact rfl; exact rfl; exact rfl))))
    refine BV (DM rfl hy1 rfl rfl (Takes.skip (Takes.skip Takes.all)) (fun τ hτ=>.inl (by simp [hτ])) rfl rfl (fun _ _ _ w hw=>hw.sel Sel.nil) ?_)
    rintro _ H' ⟨σ1,rfl,⟨rfl,hI1⟩|⟨rfl,hSt⟩⟩
    ·refine DP (H':=_::_::Own σ1) (List.perm_append_comm (l₂:=[_,_])) ?_
     refine CQ ?_;refine Abp ?_;refine BE ?_
     exact BJ (k+1,p',q',σ1) ⟨by dsimp only; omega,by dsimp only; omega,by dsimp only; omega,g2,hI1⟩ (by dsimp only; omega) covZ Sel.refl
    ·refine CQ ?_
     refine A7 ?_;refine A3 rfl ?_
     exact AP (res0 rfl) (fun _ h=>h) Sel.left ⟨σ1,rfl,.inr hSt⟩
 ·rw [decide_eq_false h1]
  by_cases h2:q<2*b.length
  ·have hX:nxtT (tog a) (tog b) p q=n:=by unfold nxtT; rw [if_neg (by omega),hn]
   rw [decide_eq_true h2]
   have hlive:p<(tog a).length∨q<(tog b).length:=by omega
   have hS':=mrg_at (by omega) (by omega) hlive
   have hgo:=stp_go hlive
   rw [hX] at hS' hgo;rw [← hS] at hS'
   obtain ⟨g1,g2,g3⟩:=drop_head hS'
   have p1:=stp_le (A:=tog a) (t:=n) (p:=p) (by omega)
   have q1:=stp_le (A:=tog b) (t:=n) (p:=q) (by omega)
   have hy1:=hy k σ' (encPt (n,oddB (stp (tog a) n p),oddB (stp (tog b) n q))) (by rw [List.getElem?_map,g1]; rfl) hI
   have k1:=hpa bx p n hp
   have k2:=hpb by_ q n hq
   generalize stp (tog a) n p=p' at g2 hy1 k1 p1 hgo
   generalize stp (tog b) n q=q' at g2 hy1 k2 q1 hgo
   refine Aa2 ?_;refine Acg ?_;refine Aan ?_;refine AY ?_;refine AX ?_;refine Aaf ?_;refine Aab ?_;refine Acg ?_;refine Ab1 ?_;refine Aae ?_;refine AX ?_;refine Aau ?_;refine Ab7 ?_;refine Aai ?_;refine AB ?_;refine BF k1 rfl rfl takesZ rdZ rfl rfl ?_;rintro _ _ ⟨rfl,rfl⟩;refine Abb ?_;refine AB ?_;refine BF k2 rfl rfl takesZ rdZ rfl rfl ?_;rintro _ _ ⟨rfl,rfl⟩;refine Aal ?_
   refine BH (.q 0 (.q 1 (.q 2 (.q 3 (.q 4 (.q 5 (.q 6 (.q 7 (.q 8 (.q 9 (.q 10 (.l 11 .b (.q 12 .nil))))))))))))) [] rfl (by kernel_rfl) Sel.nil ?_
   refine AS ?_;refine AS ?_;refine Ab2 ?_
   focus ((refine' BR rfl _ rfl rfl rfl rfl _; rotate_left; (focus (apply CT; exact rfl; exact rfl; exact rfl; exact rfl; exact rfl; exact rfl; exact rfl))))
   refine BV (DM rfl hy1 rfl rfl (Takes.skip (Takes.skip Takes.all)) (fun τ hτ=>.inl (by simp [hτ])) rfl rfl (fun _ _ _ w hw=>hw.sel Sel.nil) ?_)
   rintro _ H' ⟨σ1,rfl,⟨rfl,hI1⟩|⟨rfl,hSt⟩⟩
   ·refine DP (H':=_::_::Own σ1) (List.perm_append_comm (l₂:=[_,_])) ?_
    refine CQ ?_;refine Abp ?_;refine BE ?_
    exact BJ (k+1,p',q',σ1) ⟨by dsimp only; omega,by dsimp only; omega,by dsimp only; omega,g2,hI1⟩ (by dsimp only; omega) covZ Sel.refl
   ·refine CQ ?_
    refine A7 ?_;refine A3 rfl ?_
    exact AP (res0 rfl) (fun _ h=>h) Sel.left ⟨σ1,rfl,.inr hSt⟩
  ·rw [decide_eq_false h2]
   have hpe:p=(tog a).length:=by omega
   have hqe:q=(tog b).length:=by omega
   rw [hpe,hqe,mrg_end] at hS
   have hke:k=(mrg (tog a) false (tog b) false).length:=by
    have:=List.drop_eq_nil_iff.1 hS
    omega
   refine Aa2 ?_;refine Acg ?_;refine Aan ?_;refine AY ?_;refine AX ?_;refine Aau ?_
   refine AP (res0 rfl) (fun _ h=>h) (Sel.skip (Sel.skip Sel.refl)) ⟨σ',rfl,.inl ?_⟩
   rw [List.length_map,← hke];exact hI
theorem points_spec (v u:Value) (hv:v.oneCell'=true) (hu:u.oneCell'=true) :
  Eng.Spec Tryz.prog (fv 134) [v,u] [] [] (fun r H'=>∃ b1 b2,r=.func (.func 179) #[] #[.pointer (some ⟨b1,0,none⟩),.pointer (some ⟨b2,0,none⟩)]∧H'=[sng b2 (.cells #[u] 93 (0,0)),sng b1 (.cells #[v] 93 (0,0))]):=by
 refine spec_in (cap:=[]) Tryz.func134 rfl rfl Tryz.ntmps134 rfl envZ (fun N β=>?_)
 refine Aa ?_;refine A9 (DE rfl hv) rfl rfl rfl ?_;rintro _ _ ⟨b1,rfl,rfl⟩;refine A9 (DE rfl hu) rfl rfl rfl ?_;rintro _ _ ⟨b2,rfl,rfl⟩;refine Aaa ?_;refine Aa ?_;refine CE ?_;refine Aaa ?_;exact AP (res1 rfl rfl) rsubZ selZ ⟨b1,b2,rfl,rfl⟩
theorem ivCombine_spec (ρ τ:PH) (va vb:Value) (gf:FuncId) (a b:Iv) (f:Bool→Bool→Bool) (ha:SpAt ρ va a) (hb:SpAt τ vb b) (h0a:chkI a=0) (h0b:chkI b=0) (hlen:a.length+b.length≤1000) (hf:f false false=false)
  (hfn:∀ x y,Ans Tryz.prog (.func (.func gf) #[] #[]) [.bool x,.bool y] [] (fun r=>r=.bool (f x y))) :
  Makes Tryz.prog (fv 101) [va,vb,.func (.func gf) #[] #[]] [ρ,τ] (fun r σ=>∃ u,r=.tuple #[u,int 0]∧OwnS 71 2 u (combI f a b).length ((combI f a b).flatMap encS) σ):=by
 have hca:=ivCheck_spec ρ va a ha (by omega)
 have hcb:=ivCheck_spec τ vb b hb (by omega)
 rw [h0a] at hca;rw [h0b] at hcb
 have hpts:=fun b1 b2=>points_iter ρ τ va vb a b b1 b2 ha hb (by omega) (by omega)
 have hcl:=(combI_ok hf (chkI_norm h0a).2.1 (chkI_norm h0b).2.1).2.2
 have hml:=mrg_len _ (tog a) false (tog b) false (Nat.le_refl _)
 rw [tog_len,tog_len] at hml
 obtain ⟨qa,ca,rfl,_⟩:=ha.val encS_len
 obtain ⟨qb,cb,rfl,_⟩:=hb.val encS_len
 refine spec_in (cap:=[]) Tryz.func101 rfl rfl Tryz.ntmps101 rfl envZ (fun N β=>?_)
 refine ED ?_;refine Aa ?_;refine FN ?_; rintro _ _ ⟨b,rfl,rfl⟩;refine AC ?_;refine Aam ?_
 revert b; intro b5
 refine AZ (ρ:=sng b5 _) takeZ ?_
 have bx55_3:=rdB b5 206 [.func (.func gf) #[] #[]]
 have g5:=rdC bx55_3 0
 refine AL hca rfl rfl rdZ rfl rfl ?_;rintro _ rfl;refine A5 ?_;refine Aan ?_;refine AL hcb rfl rfl rdZ rfl rfl ?_;rintro _ rfl;refine Abs ?_;refine Aa ?_;refine DC ?_; rintro _ _ ⟨b,rfl,rfl⟩;refine AE ?_;refine Aa ?_;refine DC ?_; rintro _ _ ⟨b,rfl,rfl⟩;refine A6 ?_; rintro _ _ ⟨rfl,rfl⟩;refine Abx ?_;refine AB ?_
 revert b; intro b9
 revert b; intro b8
 refine BF (points_spec (.slice qa a.length ca) (.slice qb b.length cb) rfl rfl) rfl rfl Takes.nil (fun τ hτ=>by simp at hτ) rfl rfl ?_
 rintro _ _ ⟨b1,b2,rfl,rfl⟩;refine AZ (ρ:=sng b1 _) takeZ ?_;refine AZ (ρ:=sng b2 _) takeZ ?_;refine AE ?_;refine AV ?_
 refine DL (gf:=179) (cap:=[.pointer (some ⟨b1,0,none⟩),.pointer (some ⟨b2,0,none⟩)]) (ps:=[24,25]) (X:=Value × Bool × PH) rfl Tryz.func179 rfl rfl
  (hpts b1 b2) ?_
  (fun i x=>x.2.1=oddB (mcomb f ((mrg (tog a) false (tog b) false).take i) []).length∧OwnS 71 2 x.1 (spans (mcomb f ((mrg (tog a) false (tog b) false).take i) [])).length ((spans (mcomb f ((mrg (tog a) false (tog b) false).take i) [])).flatMap encS) x.2.2)
  (fun x=>[sng b8 (.cells #[x.1] 93 (0,0)),sng b9 (.cells #[.bool x.2.1] 4 (0,0)),x.2.2]) (fun _ _=>False) (.slice none 0 0,false,emp) rfl takesZ ⟨rfl,OwnS.nil _ _⟩ ?_ ?_ ?_
 ·intro σ' hσ
  simp only [List.mem_cons,List.not_mem_nil,or_false] at hσ ⊢
  rcases hσ with h|h|h|h <;> simp [h]
 ·rintro lo r i ⟨u,ins,σ⟩ vs hvs ⟨hins,hO⟩ hps has hbd hst hpe hfr
  obtain ⟨st,pe,fnn,tm,prm,asg,bdy,df⟩:=r
  simp only at hps has hbd hst hpe hfr;subst hps has hbd hst hpe;rw [List.getElem?_map] at hvs
  obtain ⟨⟨t,x,y⟩,hc,rfl⟩:=Option.map_eq_some_iff.1 hvs
  have hnx:=mcomb_next f hc []
  have hOl:=mcomb_len f ((mrg (tog a) false (tog b) false).take i) []
  have hti:((mrg (tog a) false (tog b) false).take i).length≤(mrg (tog a) false (tog b) false).length:=by rw [List.length_take]; omega
  dsimp only at hins hO
  have hsl:=spans_len (mcomb f ((mrg (tog a) false (tog b) false).take i) [])
  simp only [hnx]
  generalize mcomb f ((mrg (tog a) false (tog b) false).take i) []=O at hins hO hOl hsl
  simp only [List.length_nil] at hOl
  have hone:∀ z n (xs:List Value) (χ:PH),OwnS 71 2 z n xs χ→z.oneCell'=true:=fun z n xs χ h=>by obtain ⟨_,_,rfl⟩:=h.form; rfl
  have hu1:=hone _ _ _ _ hO
  have hfxy:=hfn x y
  have hm1:mcomb1 f O (t,x,y)=if f x y=oddB O.length then O else O ++ [t]:=rfl
  refine yield_spec hfr rfl (by intro p hp; simp at hp; omega) putiZ (fun N' β'=>?_)
  dsimp only
  refine Aaw ?_;refine AA ?_;refine BG ?_; rintro _ _ ⟨b,rfl,rfl⟩;refine A4 ?_; rintro _ _ ⟨rfl,rfl⟩;refine AE ?_;refine C6 rfl rfl ?_;refine DI takeZ rfl ?_
  revert b; intro bx
  refine AV ?_;refine Aa ?_;refine AG ?_
  focus ((refine BB (FO rfl rfl rfl rfl (by decide)) rfl rfl rfl ?_))
  refine AG ?_
  focus ((refine BB (FP rfl rfl rfl rfl (by decide)) rfl rfl rfl ?_))
  refine AG ?_;refine AL hfxy rfl rfl rdZ rfl rfl ?_;rintro _ rfl
  cases hfv:f x y with
  | true =>
   cases ins with
   | true =>
    rw [hfv,← hins,if_pos rfl] at hm1;refine Ab4 ?_;refine Aca ?_;refine AG ?_;refine AY ?_;refine AX ?_;refine Aa8 ?_;refine Aab ?_;refine AY ?_;refine AB ?_;refine AN rfl rfl rfl ?_;refine AK ?_;refine Aaa ?_;refine Aad ?_;refine Aa3 ?_;refine AB ?_;refine A6 ?_; rintro _ _ ⟨rfl,rfl⟩;refine AE ?_;refine BE ?_
    exact BX takeZ rsubZ selZ ⟨(u,true,σ),.inl ⟨rfl,⟨by rw [hm1]; exact hins,by rw [hm1]; exact hO⟩,rfl⟩⟩
   | false =>
    rw [hfv,← hins,if_neg (by simp)] at hm1
    have hsp:=spans_even t hins.symm
    refine Ab4 ?_;refine Aca ?_;refine AG ?_;refine AY ?_;refine Abv ?_;refine A3 rfl ?_;refine AA ?_;refine AG ?_;refine AB ?_;refine B0 ?_;refine B7 ?_; rintro _ _ ⟨b,rfl,rfl⟩
    refine A9 (CO (by_:=16) (s:=2) (news:=[int t,int 0]) rfl rfl rfl rfl rfl rfl rfl hO takeZ (cells_own memZ) rfl oneZ (by omega) (by simp only [maxLen]; omega) (by omega)) rfl rfl rfl ?_
    rintro u1 _ ⟨σ1,hO1,rfl⟩
    have hu2:=hone _ _ _ _ hO1
    refine A6 ?_; rintro _ _ ⟨rfl,rfl⟩;refine AE ?_;refine Aa3 ?_;refine AB ?_;refine A6 ?_; rintro _ _ ⟨rfl,rfl⟩;refine AE ?_;refine BE ?_;refine BX takeZ rsubZ selZ ⟨(u1,true,σ1),.inl ⟨rfl,⟨?_,?_⟩,rfl⟩⟩
    ·dsimp only
     rw [hm1,List.length_append,List.length_singleton,oddB_succ,← hins]; rfl
    ·dsimp only
     rw [hm1,hsp,List.length_append,List.flatMap_append];exact hO1
  | false =>
   cases ins with
   | false =>
    rw [hfv,← hins,if_pos rfl] at hm1;refine Ab4 ?_;refine Aab ?_;refine Aa0 ?_;refine AK ?_;refine Aa8 ?_;refine Aab ?_;refine AY ?_;refine AB ?_;refine AG ?_;refine Abv ?_;refine Aad ?_;refine Aa3 ?_;refine AB ?_;refine A6 ?_; rintro _ _ ⟨rfl,rfl⟩;refine AE ?_;refine BE ?_
    exact BX takeZ rsubZ selZ ⟨(u,false,σ),.inl ⟨rfl,⟨by rw [hm1]; exact hins,by rw [hm1]; exact hO⟩,rfl⟩⟩
   | true =>
    rw [hfv,← hins,if_neg (by simp)] at hm1
    obtain ⟨l,c,e1,e2⟩:=spans_odd t hins.symm
    rw [e1] at hO hsl
    have hll:(l ++ [(c,(0:Int))]).length=l.length+1:=by simp
    obtain ⟨bu,cu,rfl⟩:=hO.formP (by omega)
    have hget:(l ++ [(c,(0:Int))])[(l ++ [(c,(0:Int))]).length-1]?=some (c,0):=by simp
    refine Ab4 ?_;refine Aab ?_;refine Aa0 ?_;refine AK ?_;refine Aa8 ?_;refine Aab ?_;refine AY ?_;refine AB ?_;refine AG ?_;refine Abv ?_;refine A3 rfl ?_;refine AA ?_;refine AG ?_;refine AG ?_;refine BT ?_;refine CL ?_;refine AB ?_;refine C7 ?_;refine DT ?_
    refine B4 (EX encS_len (s:=2) ((l ++ [(c,(0:Int))]).length-1) 1 (c,t) hO rfl (by simp; rfl) (by decide) hget rfl rfl rfl rfl takeZ) rfl rfl ?_
    rintro _ _ ⟨rfl,σ1,hO1,rfl⟩;refine AE ?_;refine Aa3 ?_;refine AB ?_;refine A6 ?_; rintro _ _ ⟨rfl,rfl⟩;refine AE ?_;refine BE ?_;refine BX takeZ rsubZ selZ ⟨(.slice (some ⟨bu,0,none⟩) (l ++ [(c,(0:Int))]).length cu,false,σ1),.inl ⟨rfl,⟨?_,?_⟩,rfl⟩⟩
    ·dsimp only
     rw [hm1,List.length_append,List.length_singleton,oddB_succ,← hins]; rfl
    ·dsimp only
     rw [hm1,e2]
     have es:(l ++ [(c,(0:Int))]).set ((l ++ [(c,(0:Int))]).length-1) (c,t)=l ++ [(c,t)]:=by simp
     rw [es] at hO1
     simpa using hO1
 ·rintro b2' ⟨u,ins,σ⟩ ⟨hins,hO⟩
  rw [List.length_map,List.take_length] at hins hO
  dsimp only at hins hO
  have hO2:OwnS 71 2 u (combI f a b).length ((combI f a b).flatMap encS) σ:=hO
  obtain ⟨p,c,rfl⟩:=hO2.form
  clear hO
  generalize combI f a b=out at hO2 hcl
  refine BE ?_;refine AD ?_;refine Aa ?_;refine AG ?_;refine BT ?_;refine BZ ?_;refine Aaf ?_;refine Aa ?_;refine AG ?_;refine Abf ?_;exact DV (Marks.cons .here .nil) (res2 rfl rfl rfl) rsubZ selZ ⟨σ,⟨_,rfl,hO2⟩,rfl⟩
 ·rintro _ _ _ h; exact h.elim
theorem snOr_spec (x y:Bool):Ans Tryz.prog (fv 102) [.bool x,.bool y] [] (fun r=>r=.bool (x || y)):=by
 refine spec_in (cap:=[]) Tryz.func102 rfl rfl Tryz.ntmps102 rfl envZ (fun N β=>?_)
 cases x <;> cases y
 all_goals
  repeat' (first
   | (refine AB ?_)
   | (refine AC ?_)
   | (refine AX ?_)
   | (refine AK ?_)
   | (refine AD ?_)
   | (refine AA ?_)
   | (refine AE ?_)
   | (refine AN rfl rfl rfl ?_)
   | fail)
  exact A2 ⟨rfl,rfl⟩
theorem snUnion_spec (ρ τ:PH) (va vb:Value) (a b:Iv) (ha:SpAt ρ va a) (hb:SpAt τ vb b) (h0a:chkI a=0) (h0b:chkI b=0) (hlen:a.length+b.length≤1000) :
  Makes Tryz.prog (fv 69) [va,vb] [ρ,τ] (fun r σ=>∃ p c,r=.tuple #[.slice p (combI (fun x y=>x || y) a b).length c,int 0]∧OwnS 71 2 (.slice p (combI (fun x y=>x || y) a b).length c) (combI (fun x y=>x || y) a b).length ((combI (fun x y=>x || y) a b).flatMap encS) σ):=by
 have h:=ivCombine_spec ρ τ va vb 102 a b (fun x y=>x || y) ha hb h0a h0b hlen rfl snOr_spec
 obtain ⟨qa,ca,rfl,_⟩:=ha.val encS_len
 obtain ⟨qb,cb,rfl,_⟩:=hb.val encS_len
 refine spec_in (cap:=[]) Tryz.func69 rfl rfl Tryz.ntmps69 rfl envZ (fun N β=>?_)
 refine Abi ?_;refine Aai ?_;refine AB ?_;refine C3 h rfl rfl rdZ rfl rfl ?_;rintro _ σ ⟨u,rfl,hO⟩
 obtain ⟨p,c,rfl⟩:=hO.form
 refine Aap ?_;refine Abf ?_;exact AP (res2 rfl rfl rfl) rsubZ selZ ⟨σ,⟨p,c,rfl,hO⟩,rfl⟩
theorem rsFragT_spec {x:Bn} (h:0<x.t):Ans Tryz.prog (fv 60) [.agg #[int (x.a:Int),int (x.c:Int),int 7,int (x.o:Int),int (x.t:Int),int 1,int (x.n:Int),int (x.l:Int),int 1,int 4,.slice none 0 0,str x.d]] [] (fun r=>r=.bool true):=by
 refine spec_in (cap:=[]) Tryz.func60 rfl rfl Tryz.ntmps60 rfl envZ (fun N β=>?_)
 refine Aa ?_;refine A9 (BK rfl) rfl rfl rfl ?_;rintro _ _ ⟨b1,rfl,rfl⟩;refine AZ (ρ:=sng b1 (.cells #[int (x.a:Int),int (x.c:Int),int 7,int (x.o:Int),int (x.t:Int),int 1,int (x.n:Int),int (x.l:Int),int 1,int 4,.slice none 0 0,str x.d] 34 (0,0))) takeZ ?_
 have bx17_3:=rdB b1 34 [int (x.a:Int),int (x.c:Int),int 7,int (x.o:Int),int (x.t:Int),int 1,int (x.n:Int),int (x.l:Int),int 1,int 4,.slice none 0 0,str x.d]
 have c0:=rdC bx17_3 0
 have c1:=rdC bx17_3 1
 have c2:=rdC bx17_3 2
 have c3:=rdC bx17_3 3
 have c4:=rdC bx17_3 4
 have c5:=rdC bx17_3 5
 have c6:=rdC bx17_3 6
 have c7:=rdC bx17_3 7
 have c8:=rdC bx17_3 8
 have c9:=rdC bx17_3 9
 have c10:=rdC bx17_3 10
 have c11:=rdC bx17_3 11
 refine Aaa ?_;refine Abr ?_;refine C1 ?_;refine Aaa ?_;exact A2 ⟨rfl,rfl⟩
theorem rsFragF_spec {x:Bn} (h:x.t=0):Ans Tryz.prog (fv 60) [.agg #[int (x.a:Int),int (x.c:Int),int 7,int (x.o:Int),int (x.t:Int),int 1,int (x.n:Int),int (x.l:Int),int 1,int 4,.slice none 0 0,str x.d]] [] (fun r=>r=.bool false):=by
 refine spec_in (cap:=[]) Tryz.func60 rfl rfl Tryz.ntmps60 rfl envZ (fun N β=>?_)
 refine Aa ?_;refine A9 (BK rfl) rfl rfl rfl ?_;rintro _ _ ⟨b1,rfl,rfl⟩;refine AZ (ρ:=sng b1 (.cells #[int (x.a:Int),int (x.c:Int),int 7,int (x.o:Int),int (x.t:Int),int 1,int (x.n:Int),int (x.l:Int),int 1,int 4,.slice none 0 0,str x.d] 34 (0,0))) takeZ ?_
 have bx47_3:=rdB b1 34 [int (x.a:Int),int (x.c:Int),int 7,int (x.o:Int),int (x.t:Int),int 1,int (x.n:Int),int (x.l:Int),int 1,int 4,.slice none 0 0,str x.d]
 have c0:=rdC bx47_3 0
 have c1:=rdC bx47_3 1
 have c2:=rdC bx47_3 2
 have c3:=rdC bx47_3 3
 have c4:=rdC bx47_3 4
 have c5:=rdC bx47_3 5
 have c6:=rdC bx47_3 6
 have c7:=rdC bx47_3 7
 have c8:=rdC bx47_3 8
 have c9:=rdC bx47_3 9
 have c10:=rdC bx47_3 10
 have c11:=rdC bx47_3 11
 refine Aaa ?_;refine Abr ?_;refine BZ ?_;refine Aaa ?_;exact A2 ⟨rfl,rfl⟩
theorem rsParent_spec (a c q o t:Int):Ans Tryz.prog (fv 63) [.agg #[int a,int c,int q,int o,int t]] [] (fun r=>r=.agg #[int a,int c,int q,int 0,int 0]):=by
 refine spec_in (cap:=[]) Tryz.func63 rfl rfl Tryz.ntmps63 rfl envZ (fun N β=>?_)
 refine Aa ?_;refine A9 (BK rfl) rfl rfl rfl ?_;rintro _ _ ⟨b1,rfl,rfl⟩;refine A9 (BP rfl) rfl rfl rfl ?_;rintro _ _ ⟨b2,rfl,rfl⟩;refine AE ?_;refine Ab8 ?_;refine A6 ?_; rintro _ _ ⟨rfl,rfl⟩;refine AF ?_;refine A6 ?_; rintro _ _ ⟨rfl,rfl⟩;refine AE ?_;refine Aat ?_;refine A4 ?_; rintro _ _ ⟨rfl,rfl⟩;refine AE ?_;exact AP (resS1 (b1:=b2) (v1:=[int a,int c,int q,int 0,int 0]) rfl rfl rfl rfl (cells_own memZ)) rsubZ selZ ⟨rfl,rfl⟩
theorem rsCopied_spec:Ans Tryz.prog (fv 64) [.slice none 0 0] [] (fun r=>r=.slice none 0 0):=by
 refine spec_in (cap:=[]) Tryz.func64 rfl rfl Tryz.ntmps64 rfl envZ (fun N β=>?_)
 refine Aaw ?_;refine Ab3 ?_;refine Acf ?_
 refine BQ [3,7] (X:=Unit) () (fun _=>True) (fun _=>[(8,int 0)]) (fun _=>[]) (fun _=>0) pickZ trivial covZ Sel.refl ?_
 rintro ⟨⟩ -;refine Abd ?_;refine Aab ?_;refine Aaa ?_;exact A2 ⟨rfl,rfl⟩
theorem blEqual_spec:Ans Tryz.prog (fv 67) [.slice none 0 0,.slice none 0 0] [] (fun r=>r=.bool true):=by
 refine spec_in (cap:=[]) Tryz.func67 rfl rfl Tryz.ntmps67 rfl envZ (fun N β=>?_)
 refine Ab3 ?_;refine BT ?_;refine AB ?_;refine BT ?_;refine Aba ?_;refine Aab ?_;refine Acf ?_
 refine BQ [0,1,12] (X:=Unit) () (fun _=>True) (fun _=>[(13,int 0)]) (fun _=>[]) (fun _=>0) pickZ trivial covZ Sel.refl ?_
 rintro ⟨⟩ -;refine Abd ?_;refine Aaw ?_;exact A2 ⟨rfl,rfl⟩
theorem rsFields_spec (x:Bn):Ans Tryz.prog (fv 66) [.agg #[int (x.a:Int),int (x.c:Int),int 7,int (x.o:Int),int (x.t:Int),int 1,int (x.n:Int),int (x.l:Int),int 1,int 4,.slice none 0 0,str x.d]] [] (fun r=>r=.agg #[int (x.a:Int),int (x.c:Int),int 7,int 0,int 0,int 1,int (x.n:Int),int (x.l:Int),int 1,int 4]):=by
 have hpa:=rsParent_spec (x.a:Int) (x.c:Int) 7 (x.o:Int) (x.t:Int)
 refine spec_in (cap:=[]) Tryz.func66 rfl rfl Tryz.ntmps66 rfl envZ (fun N β=>?_)
 refine Aa ?_;refine A9 (BK rfl) rfl rfl rfl ?_;rintro _ _ ⟨b1,rfl,rfl⟩;refine AZ (ρ:=sng b1 (.cells #[int (x.a:Int),int (x.c:Int),int 7,int (x.o:Int),int (x.t:Int),int 1,int (x.n:Int),int (x.l:Int),int 1,int 4,.slice none 0 0,str x.d] 34 (0,0))) takeZ ?_
 have bx172_3:=rdB b1 34 [int (x.a:Int),int (x.c:Int),int 7,int (x.o:Int),int (x.t:Int),int 1,int (x.n:Int),int (x.l:Int),int 1,int 4,.slice none 0 0,str x.d]
 have c0:=rdC bx172_3 0
 have c1:=rdC bx172_3 1
 have c2:=rdC bx172_3 2
 have c3:=rdC bx172_3 3
 have c4:=rdC bx172_3 4
 have c5:=rdC bx172_3 5
 have c6:=rdC bx172_3 6
 have c7:=rdC bx172_3 7
 have c8:=rdC bx172_3 8
 have c9:=rdC bx172_3 9
 have c10:=rdC bx172_3 10
 have c11:=rdC bx172_3 11
 have cp:RdP (sng b1 (.cells #[int (x.a:Int),int (x.c:Int),int 7,int (x.o:Int),int (x.t:Int),int 1,int (x.n:Int),int (x.l:Int),int 1,int 4,.slice none 0 0,str x.d] 34 (0,0))) b1 0 [int (x.a:Int),int (x.c:Int),int 7,int (x.o:Int),int (x.t:Int)]:=rdP_sng (k:=0) (xs:=[int (x.a:Int),int (x.c:Int),int 7,int (x.o:Int),int (x.t:Int),int 1,int (x.n:Int),int (x.l:Int),int 1,int 4,.slice none 0 0,str x.d]) rfl
 have cq:RdP (sng b1 (.cells #[int (x.a:Int),int (x.c:Int),int 7,int (x.o:Int),int (x.t:Int),int 1,int (x.n:Int),int (x.l:Int),int 1,int 4,.slice none 0 0,str x.d] 34 (0,0))) b1 5 [int 1,int (x.n:Int)]:=rdP_sng (k:=5) (xs:=[int (x.a:Int),int (x.c:Int),int 7,int (x.o:Int),int (x.t:Int),int 1,int (x.n:Int),int (x.l:Int),int 1,int 4,.slice none 0 0,str x.d]) rfl
 refine A9 (BP rfl) rfl rfl rfl ?_;rintro _ _ ⟨b2,rfl,rfl⟩;refine Aal ?_
 refine BH (.q 0 (.q 1 (.q 3 (.q 4 (.q 5 (.q 6 (.q 7 (.q 8 (.q 9 (.q 10 (.l 2 .e (.q 11 (.l 12 .b .nil))))))))))))) [] rfl (by kernel_rfl) selZ ?_
 refine AQ ?_;refine B5 ?_;refine AQ ?_;refine B5 ?_;refine Aaj ?_;refine Aaj ?_;refine Aaj ?_;refine BV (BI rfl hpa rfl rfl rdZ rfl rfl ?_);rintro _ rfl
 focus ((refine BR rfl (A8 (out:=[int (x.a:Int),int (x.c:Int),int 7,int 0,int 0,int 1,int (x.n:Int),int (x.l:Int),int 1,int 4]) rfl rfl rfl rfl rfl) rfl rfl rfl rfl ?_))
 focus ((refine BV ?_; refine' CU rfl _ rfl rfl _ _; rotate_left; (focus (apply BA; exact rfl; exact rfl; exact takeZ; exact oneZ; exact rfl; exact rfl)); (focus (rintro _ _ ⟨_,rfl⟩ w hw; exact hw.sel selZ)); rintro _ _ ⟨rfl,rfl⟩))
 refine A7 ?_
 skip
 exact AP (resS1 (b1:=b2) (v1:=[int (x.a:Int),int (x.c:Int),int 7,int 0,int 0,int 1,int (x.n:Int),int (x.l:Int),int 1,int 4]) rfl rfl rfl rfl (cells_own memZ)) rsubZ selZ ⟨rfl,rfl⟩
theorem rsAnd_spec (x y:Bool):Ans Tryz.prog (fv 133) [.bool x,.bool y] [] (fun r=>r=.bool (x && y)):=by
 refine spec_in (cap:=[]) Tryz.func133 rfl rfl Tryz.ntmps133 rfl envZ (fun N β=>?_)
 cases x <;> cases y
 all_goals
  repeat' (first
   | (refine AB ?_)
   | (refine AC ?_)
   | (refine AX ?_)
   | (refine AK ?_)
   | (refine AD ?_)
   | (refine AA ?_)
   | (refine AE ?_)
   | (refine AN rfl rfl rfl ?_)
   | fail)
  exact A2 ⟨rfl,rfl⟩
theorem rsInter_spec (ρ τ:PH) (va vb:Value) (a b:Iv) (ha:SpAt ρ va a) (hb:SpAt τ vb b) (h0a:chkI a=0) (h0b:chkI b=0) (hlen:a.length+b.length≤1000) :
  Makes Tryz.prog (fv 100) [va,vb] [ρ,τ] (fun r σ=>∃ p c,r=.tuple #[.slice p (combI (fun x y=>x && y) a b).length c,int 0]∧OwnS 71 2 (.slice p (combI (fun x y=>x && y) a b).length c) (combI (fun x y=>x && y) a b).length ((combI (fun x y=>x && y) a b).flatMap encS) σ):=by
 have h:=ivCombine_spec ρ τ va vb 133 a b (fun x y=>x && y) ha hb h0a h0b hlen rfl rsAnd_spec
 obtain ⟨qa,ca,rfl,_⟩:=ha.val encS_len
 obtain ⟨qb,cb,rfl,_⟩:=hb.val encS_len
 refine spec_in (cap:=[]) Tryz.func100 rfl rfl Tryz.ntmps100 rfl envZ (fun N β=>?_)
 refine Abi ?_;refine Aai ?_;refine AB ?_;refine C3 h rfl rfl rdZ rfl rfl ?_;rintro _ σ ⟨u,rfl,hO⟩
 obtain ⟨p,c,rfl⟩:=hO.form
 refine Aap ?_;refine Abf ?_;exact AP (res2 rfl rfl rfl) rsubZ selZ ⟨σ,⟨p,c,rfl,hO⟩,rfl⟩
theorem rsWrite_spec {x:Bn} {S:List UInt8} (ho:x.o<S.length) (hl:x.o+x.d.length≤S.length) (hS:S.length≤4096):Ans Tryz.prog (fv 62) [str S,.agg #[int (x.a:Int),int (x.c:Int),int 7,int (x.o:Int),int (x.t:Int),int 1,int (x.n:Int),int (x.l:Int),int 1,int 4,.slice none 0 0,str x.d]] [] (fun r=>r=str (wrB S x.o x.d)):=by
 have hwl:=wrB_len hl
 refine spec_in (cap:=[]) Tryz.func62 rfl rfl Tryz.ntmps62 rfl envZ (fun N β=>?_)
 refine Aa ?_;refine A9 (BK rfl) rfl rfl rfl ?_;rintro _ _ ⟨b3,rfl,rfl⟩;refine AZ (ρ:=sng b3 (.cells #[int (x.a:Int),int (x.c:Int),int 7,int (x.o:Int),int (x.t:Int),int 1,int (x.n:Int),int (x.l:Int),int 1,int 4,.slice none 0 0,str x.d] 34 (0,0))) takeZ ?_
 have bx255_3:=rdB b3 34 [int (x.a:Int),int (x.c:Int),int 7,int (x.o:Int),int (x.t:Int),int 1,int (x.n:Int),int (x.l:Int),int 1,int 4,.slice none 0 0,str x.d]
 have c0:=rdC bx255_3 0
 have c1:=rdC bx255_3 1
 have c2:=rdC bx255_3 2
 have c3:=rdC bx255_3 3
 have c4:=rdC bx255_3 4
 have c5:=rdC bx255_3 5
 have c6:=rdC bx255_3 6
 have c7:=rdC bx255_3 7
 have c8:=rdC bx255_3 8
 have c9:=rdC bx255_3 9
 have c10:=rdC bx255_3 10
 have c11:=rdC bx255_3 11
 refine Aai ?_
 refine A9 (FA rfl rfl rfl rfl (by simp only [maxLen]; omega)) rfl rfl rfl ?_
 rintro u _ ⟨ρ0,hO,rfl⟩
 obtain ⟨bb,cap,rfl,hcap,_⟩:=hO.rd
 have hcu:cutP (some ⟨bb,0,none⟩) cap x.o 1=some ⟨bb,x.o,none⟩:=cutP_one (by omega)
 refine Aag ?_
 refine BH (.q 0 (.q 1 (.q 2 (.q 3 (.q 4 (.q 5 (.q 6 (.l 7 .b .nil)))))))) [] rfl (by kernel_rfl) Sel.nil ?_
 refine AS ?_;refine AQ ?_;refine Aaj ?_;refine EZ ?_;refine Aaj ?_;refine BV ?_
 refine' a_b rfl (FQ (b:=bb) (o:=x.o) (dl:=S.length-x.o) (dc:=cap-x.o) (congrArg (fun a=>some (Value.slice a (S.length-x.o) (cap-x.o))) hcu) rfl rfl rfl hO ⟨_,_,rfl⟩ takeZ (by omega) hl) rfl rfl rfl _ _
 ·rintro _ _ ⟨_,rfl,_,rfl⟩ w hw
  exact hw.sel Sel.nil
 rintro _ _ ⟨ρ1,rfl,hO1,rfl⟩;refine A7 ?_
 obtain ⟨bb2,cap2,e2,hcap2,hrd⟩:=hO1.rd
 simp only [Value.slice.injEq,Option.some.injEq,Addr.mk.injEq,true_and,and_true] at e2
 obtain ⟨rfl,e3,rfl⟩:=e2
 refine Aab ?_
 focus ((refine BB (CW (l:=wrB S x.o x.d) (by rw [hwl]; rfl) (cellsH hrd memZ) rfl rfl rfl) rfl rfl rfl ?_))
 refine Aaa ?_;exact A2 ⟨rfl,rfl⟩
theorem knAt_sp {ρ:PH} {b f l c:Nat} (h:KnAt ρ b f l):SpAt ρ (.slice (some ⟨b,0,none⟩) 1 c) [((f:Int),(l:Int))]:=h.sl
theorem rsNew_spec {x:Bn} (hx:x.ok) (h0:0<x.o) (h1:0<x.t):Makes Tryz.prog (fv 33) [.agg #[int (x.a:Int),int (x.c:Int),int 7,int (x.o:Int),int (x.t:Int),int 1,int (x.n:Int),int (x.l:Int),int 1,int 4,.slice none 0 0,str x.d]] [] (fun r σ=>∃ bk,r=.tuple #[.agg #[int (x.a:Int),int (x.c:Int),int 7,int 0,int 0,int 1,int (x.n:Int),int (x.l:Int),int 1,int 4,.slice none 0 0,str [],.slice (some ⟨bk,0,none⟩) 1 1,str (wrB (List.replicate x.t 0) x.o x.d)],int 0]∧KnAt σ bk x.o (x.o+x.d.length)):=by
 have hck:=bnCheck_spec hx
 have hfr:=rsFragT_spec h1
 have hsp:=rsSpan_spec hx
 have hpa:=rsParent_spec (x.a:Int) (x.c:Int) 7 (x.o:Int) (x.t:Int)
 have hcp:=rsCopied_spec
 unfold Bn.ok at hx
 have hwr:=rsWrite_spec (x:=x) (S:=List.replicate x.t 0) (by rw [List.length_replicate]; omega) (by rw [List.length_replicate]; omega) (by rw [List.length_replicate]; omega)
 refine spec_in (cap:=[]) Tryz.func33 rfl rfl Tryz.ntmps33 rfl envZ (fun N β=>?_)
 refine Aa ?_;refine A9 (BK rfl) rfl rfl rfl ?_;rintro _ _ ⟨b1,rfl,rfl⟩;refine AZ (ρ:=sng b1 (.cells #[int (x.a:Int),int (x.c:Int),int 7,int (x.o:Int),int (x.t:Int),int 1,int (x.n:Int),int (x.l:Int),int 1,int 4,.slice none 0 0,str x.d] 34 (0,0))) takeZ ?_
 have bx24_3:=rdB b1 34 [int (x.a:Int),int (x.c:Int),int 7,int (x.o:Int),int (x.t:Int),int 1,int (x.n:Int),int (x.l:Int),int 1,int 4,.slice none 0 0,str x.d]
 have c0:=rdC bx24_3 0
 have c1:=rdC bx24_3 1
 have c2:=rdC bx24_3 2
 have c3:=rdC bx24_3 3
 have c4:=rdC bx24_3 4
 have c5:=rdC bx24_3 5
 have c6:=rdC bx24_3 6
 have c7:=rdC bx24_3 7
 have c8:=rdC bx24_3 8
 have c9:=rdC bx24_3 9
 have c10:=rdC bx24_3 10
 have c11:=rdC bx24_3 11
 have cw:=rdB b1 34 [int (x.a:Int),int (x.c:Int),int 7,int (x.o:Int),int (x.t:Int),int 1,int (x.n:Int),int (x.l:Int),int 1,int 4,.slice none 0 0,str x.d]
 have cp:RdP (sng b1 (.cells #[int (x.a:Int),int (x.c:Int),int 7,int (x.o:Int),int (x.t:Int),int 1,int (x.n:Int),int (x.l:Int),int 1,int 4,.slice none 0 0,str x.d] 34 (0,0))) b1 0 [int (x.a:Int),int (x.c:Int),int 7,int (x.o:Int),int (x.t:Int)]:=rdP_sng (k:=0) (xs:=[int (x.a:Int),int (x.c:Int),int 7,int (x.o:Int),int (x.t:Int),int 1,int (x.n:Int),int (x.l:Int),int 1,int 4,.slice none 0 0,str x.d]) rfl
 refine A9 (BP rfl) rfl rfl rfl ?_;rintro _ _ ⟨b2,rfl,rfl⟩;refine Abt ?_
 focus ((refine AL hck rfl rfl rdZ rfl rfl ?_; rintro _ rfl))
 refine Aba ?_;refine Aat ?_
 focus ((refine AL hfr rfl rfl rdZ rfl rfl ?_; rintro _ rfl))
 refine AY ?_;refine Aax ?_
 refine E0 (X:=Nat × Nat) [1,2,3] (fun _=>True) (fun z=>[(4,.pointer (some ⟨z.2,0,none⟩))]) (fun z=>[sng z.2 (.cells #[int (x.a:Int),int (x.c:Int),int 7,int (x.o:Int),int (x.t:Int),int 1,int (x.n:Int),int (x.l:Int),int 1,int 4,.slice none 0 0,str x.d,.slice (some ⟨z.1,0,none⟩) 1 1,str (wrB (List.replicate x.t 0) x.o x.d)] 95 (0,0)),sng z.1 (.cells #[int (x.o:Int),int ((x.o+x.d.length:Nat):Int)] 71 (0,0)),sng b2 (.cells #[int 0,int 0,int 0,int 0,int 0,int 0,int 0,int 0,int 0,int 0,.slice none 0 0,str [],.slice none 0 0,str []] 95 (0,0))]) pickZ ?_ ?_
 ·refine BH (.q 0 (.q 1 (.q 4 (.q 5 (.q 6 (.q 9 (.l3 2 .e (.l3 3 .e (.l2 7 .e (.q 8 (.l2 10 .e (.q 11 (.l 12 .e (.l 13 .b .nil))) 12 .e (.l 10 .e (.q 11 (.l 13 .b .nil))))) 12 .e (.l 7 .e (.q 8 (.l 10 .e (.q 11 (.l 13 .b .nil)))))) 7 .e (.q 8 (.l3 3 .e (.l2 10 .e (.q 11 (.l 12 .e (.l 13 .b .nil))) 12 .e (.l 10 .e (.q 11 (.l 13 .b .nil)))) 10 .e (.l2 3 .e (.q 11 (.l 12 .e (.l 13 .b .nil))) 12 .e (.l 3 .e (.q 11 (.l 13 .b .nil)))) 12 .e (.l2 3 .e (.l 10 .e (.q 11 (.l 13 .b .nil))) 10 .e (.l 3 .e (.q 11 (.l 13 .b .nil)))))) 12 .e (.l2 3 .e (.l 7 .e (.q 8 (.l 10 .e (.q 11 (.l 13 .b .nil))))) 7 .e (.q 8 (.l2 3 .e (.l 10 .e (.q 11 (.l 13 .b .nil))) 10 .e (.l 3 .e (.q 11 (.l 13 .b .nil))))))) 7 .e (.q 8 (.l2 2 .e (.l3 3 .e (.l2 10 .e (.q 11 (.l 12 .e (.l 13 .b .nil))) 12 .e (.l 10 .e (.q 11 (.l 13 .b .nil)))) 10 .e (.l2 3 .e (.q 11 (.l 12 .e (.l 13 .b .nil))) 12 .e (.l 3 .e (.q 11 (.l 13 .b .nil)))) 12 .e (.l2 3 .e (.l 10 .e (.q 11 (.l 13 .b .nil))) 10 .e (.l 3 .e (.q 11 (.l 13 .b .nil))))) 12 .e (.l 2 .e (.l2 3 .e (.l 10 .e (.q 11 (.l 13 .b .nil))) 10 .e (.l 3 .e (.q 11 (.l 13 .b .nil))))))) 12 .e (.l2 2 .e (.l2 3 .e (.l 7 .e (.q 8 (.l 10 .e (.q 11 (.l 13 .b .nil))))) 7 .e (.q 8 (.l2 3 .e (.l 10 .e (.q 11 (.l 13 .b .nil))) 10 .e (.l 3 .e (.q 11 (.l 13 .b .nil)))))) 7 .e (.q 8 (.l 2 .e (.l2 3 .e (.l 10 .e (.q 11 (.l 13 .b .nil))) 10 .e (.l 3 .e (.q 11 (.l 13 .b .nil)))))))))))))) [] rfl (by kernel_rfl) Sel.nil ?_
  refine B5 ?_;refine B5 ?_;refine AQ ?_;refine Aaj ?_;refine B5 ?_;refine EV ?_ ?_ ?_
  ·refine BI rfl hsp rfl rfl rdZ rfl rfl ?_; rintro _ rfl
   refine EV ?_ ?_ ?_
   ·refine BC ?_; rintro _ _ ⟨b16,rfl,rfl⟩
    refine CH ?_ ?_
    ·refine a_e rfl (CF (n:=x.t) rfl rfl rfl rfl rfl rfl (by omega)) rfl rfl rfl (by rintro _ _ ⟨b,rfl,rfl⟩ w hw; exact hw.tail) ?_; rintro _ _ ⟨b20,rfl,rfl⟩
     refine BR rfl (CW (l:=List.replicate x.t 0) (by rw [List.length_replicate]; rfl) (cells_own memZ) rfl rfl rfl) rfl rfl rfl rfl ?_
     refine CH ?_ ?_
     ·refine BI rfl hwr rfl rfl rdZ rfl rfl ?_; rintro _ rfl
      refine BR rfl (A8 (out:=[int (x.a:Int),int (x.c:Int),int 7,int (x.o:Int),int (x.t:Int),int 1,int (x.n:Int),int (x.l:Int),int 1,int 4,.slice none 0 0,str x.d,.slice (some ⟨b16,0,none⟩) 1 1,str (wrB (List.replicate x.t 0) x.o x.d)]) rfl rfl rfl rfl rfl) rfl rfl rfl rfl ?_;refine CI ?_; rintro _ _ ⟨b4,rfl,rfl⟩;refine BV ?_; refine' CU rfl _ rfl rfl _ _; rotate_left; (focus (apply BA; exact rfl; exact rfl; exact takeZ; exact oneZ; exact rfl; exact rfl)); (focus (rintro _ _ ⟨_,rfl⟩ w hw; exact hw.sel selZ)); rintro _ _ ⟨rfl,rfl⟩;refine A7 ?_;exact BL (b16,b4) trivial covZ selZ
     ·refine BU ?_; rintro _ _ ⟨b4,rfl,rfl⟩
      refine BV (BI rfl hwr rfl rfl rdZ rfl rfl ?_); rintro _ rfl;refine BR rfl (A8 (out:=[int (x.a:Int),int (x.c:Int),int 7,int (x.o:Int),int (x.t:Int),int 1,int (x.n:Int),int (x.l:Int),int 1,int 4,.slice none 0 0,str x.d,.slice (some ⟨b16,0,none⟩) 1 1,str (wrB (List.replicate x.t 0) x.o x.d)]) rfl rfl rfl rfl rfl) rfl rfl rfl rfl ?_;refine BV ?_; refine' CU rfl _ rfl rfl _ _; rotate_left; (focus (apply BA; exact rfl; exact rfl; exact takeZ; exact oneZ; exact rfl; exact rfl)); (focus (rintro _ _ ⟨_,rfl⟩ w hw; exact hw.sel selZ)); rintro _ _ ⟨rfl,rfl⟩;refine A7 ?_;exact BL (b16,b4) trivial covZ selZ
    ·refine BU ?_; rintro _ _ ⟨b4,rfl,rfl⟩
     refine BV (a_e rfl (CF (n:=x.t) rfl rfl rfl rfl rfl rfl (by omega)) rfl rfl rfl (by rintro _ _ ⟨b,rfl,rfl⟩ w hw; exact hw.tail) ?_); rintro _ _ ⟨b20,rfl,rfl⟩
     refine BR rfl (CW (l:=List.replicate x.t 0) (by rw [List.length_replicate]; rfl) (cells_own memZ) rfl rfl rfl) rfl rfl rfl rfl ?_
     refine BV (BI rfl hwr rfl rfl rdZ rfl rfl ?_); rintro _ rfl;refine BR rfl (A8 (out:=[int (x.a:Int),int (x.c:Int),int 7,int (x.o:Int),int (x.t:Int),int 1,int (x.n:Int),int (x.l:Int),int 1,int 4,.slice none 0 0,str x.d,.slice (some ⟨b16,0,none⟩) 1 1,str (wrB (List.replicate x.t 0) x.o x.d)]) rfl rfl rfl rfl rfl) rfl rfl rfl rfl ?_;refine BV ?_; refine' CU rfl _ rfl rfl _ _; rotate_left; (focus (apply BA; exact rfl; exact rfl; exact takeZ; exact oneZ; exact rfl; exact rfl)); (focus (rintro _ _ ⟨_,rfl⟩ w hw; exact hw.sel selZ)); rintro _ _ ⟨rfl,rfl⟩;refine A7 ?_;exact BL (b16,b4) trivial covZ selZ
   ·refine a_e rfl (CF (n:=x.t) rfl rfl rfl rfl rfl rfl (by omega)) rfl rfl rfl (by rintro _ _ ⟨b,rfl,rfl⟩ w hw; exact hw.tail) ?_; rintro _ _ ⟨b20,rfl,rfl⟩
    refine BR rfl (CW (l:=List.replicate x.t 0) (by rw [List.length_replicate]; rfl) (cells_own memZ) rfl rfl rfl) rfl rfl rfl rfl ?_
    refine EV ?_ ?_ ?_
    ·refine BC ?_; rintro _ _ ⟨b16,rfl,rfl⟩
     refine CH ?_ ?_
     ·refine BI rfl hwr rfl rfl rdZ rfl rfl ?_; rintro _ rfl
      refine BR rfl (A8 (out:=[int (x.a:Int),int (x.c:Int),int 7,int (x.o:Int),int (x.t:Int),int 1,int (x.n:Int),int (x.l:Int),int 1,int 4,.slice none 0 0,str x.d,.slice (some ⟨b16,0,none⟩) 1 1,str (wrB (List.replicate x.t 0) x.o x.d)]) rfl rfl rfl rfl rfl) rfl rfl rfl rfl ?_;refine CI ?_; rintro _ _ ⟨b4,rfl,rfl⟩;refine BV ?_; refine' CU rfl _ rfl rfl _ _; rotate_left; (focus (apply BA; exact rfl; exact rfl; exact takeZ; exact oneZ; exact rfl; exact rfl)); (focus (rintro _ _ ⟨_,rfl⟩ w hw; exact hw.sel selZ)); rintro _ _ ⟨rfl,rfl⟩;refine A7 ?_;exact BL (b16,b4) trivial covZ selZ
     ·refine BU ?_; rintro _ _ ⟨b4,rfl,rfl⟩
      refine BV (BI rfl hwr rfl rfl rdZ rfl rfl ?_); rintro _ rfl;refine BR rfl (A8 (out:=[int (x.a:Int),int (x.c:Int),int 7,int (x.o:Int),int (x.t:Int),int 1,int (x.n:Int),int (x.l:Int),int 1,int 4,.slice none 0 0,str x.d,.slice (some ⟨b16,0,none⟩) 1 1,str (wrB (List.replicate x.t 0) x.o x.d)]) rfl rfl rfl rfl rfl) rfl rfl rfl rfl ?_;refine BV ?_; refine' CU rfl _ rfl rfl _ _; rotate_left; (focus (apply BA; exact rfl; exact rfl; exact takeZ; exact oneZ; exact rfl; exact rfl)); (focus (rintro _ _ ⟨_,rfl⟩ w hw; exact hw.sel selZ)); rintro _ _ ⟨rfl,rfl⟩;refine A7 ?_;exact BL (b16,b4) trivial covZ selZ
    ·refine BI rfl hwr rfl rfl rdZ rfl rfl ?_; rintro _ rfl
     refine CH ?_ ?_
     ·refine BC ?_; rintro _ _ ⟨b16,rfl,rfl⟩
      refine BR rfl (A8 (out:=[int (x.a:Int),int (x.c:Int),int 7,int (x.o:Int),int (x.t:Int),int 1,int (x.n:Int),int (x.l:Int),int 1,int 4,.slice none 0 0,str x.d,.slice (some ⟨b16,0,none⟩) 1 1,str (wrB (List.replicate x.t 0) x.o x.d)]) rfl rfl rfl rfl rfl) rfl rfl rfl rfl ?_;refine CI ?_; rintro _ _ ⟨b4,rfl,rfl⟩;refine BV ?_; refine' CU rfl _ rfl rfl _ _; rotate_left; (focus (apply BA; exact rfl; exact rfl; exact takeZ; exact oneZ; exact rfl; exact rfl)); (focus (rintro _ _ ⟨_,rfl⟩ w hw; exact hw.sel selZ)); rintro _ _ ⟨rfl,rfl⟩;refine A7 ?_;exact BL (b16,b4) trivial covZ selZ
     ·refine BU ?_; rintro _ _ ⟨b4,rfl,rfl⟩
      refine BN ?_; rintro _ _ ⟨b16,rfl,rfl⟩;refine BR rfl (A8 (out:=[int (x.a:Int),int (x.c:Int),int 7,int (x.o:Int),int (x.t:Int),int 1,int (x.n:Int),int (x.l:Int),int 1,int 4,.slice none 0 0,str x.d,.slice (some ⟨b16,0,none⟩) 1 1,str (wrB (List.replicate x.t 0) x.o x.d)]) rfl rfl rfl rfl rfl) rfl rfl rfl rfl ?_;refine BV ?_; refine' CU rfl _ rfl rfl _ _; rotate_left; (focus (apply BA; exact rfl; exact rfl; exact takeZ; exact oneZ; exact rfl; exact rfl)); (focus (rintro _ _ ⟨_,rfl⟩ w hw; exact hw.sel selZ)); rintro _ _ ⟨rfl,rfl⟩;refine A7 ?_;exact BL (b16,b4) trivial covZ selZ
    ·refine BU ?_; rintro _ _ ⟨b4,rfl,rfl⟩
     refine CH ?_ ?_
     ·refine BC ?_; rintro _ _ ⟨b16,rfl,rfl⟩
      refine BV (BI rfl hwr rfl rfl rdZ rfl rfl ?_); rintro _ rfl;refine BR rfl (A8 (out:=[int (x.a:Int),int (x.c:Int),int 7,int (x.o:Int),int (x.t:Int),int 1,int (x.n:Int),int (x.l:Int),int 1,int 4,.slice none 0 0,str x.d,.slice (some ⟨b16,0,none⟩) 1 1,str (wrB (List.replicate x.t 0) x.o x.d)]) rfl rfl rfl rfl rfl) rfl rfl rfl rfl ?_;refine BV ?_; refine' CU rfl _ rfl rfl _ _; rotate_left; (focus (apply BA; exact rfl; exact rfl; exact takeZ; exact oneZ; exact rfl; exact rfl)); (focus (rintro _ _ ⟨_,rfl⟩ w hw; exact hw.sel selZ)); rintro _ _ ⟨rfl,rfl⟩;refine A7 ?_;exact BL (b16,b4) trivial covZ selZ
     ·refine BI rfl hwr rfl rfl rdZ rfl rfl ?_; rintro _ rfl
      refine BN ?_; rintro _ _ ⟨b16,rfl,rfl⟩;refine BR rfl (A8 (out:=[int (x.a:Int),int (x.c:Int),int 7,int (x.o:Int),int (x.t:Int),int 1,int (x.n:Int),int (x.l:Int),int 1,int 4,.slice none 0 0,str x.d,.slice (some ⟨b16,0,none⟩) 1 1,str (wrB (List.replicate x.t 0) x.o x.d)]) rfl rfl rfl rfl rfl) rfl rfl rfl rfl ?_;refine BV ?_; refine' CU rfl _ rfl rfl _ _; rotate_left; (focus (apply BA; exact rfl; exact rfl; exact takeZ; exact oneZ; exact rfl; exact rfl)); (focus (rintro _ _ ⟨_,rfl⟩ w hw; exact hw.sel selZ)); rintro _ _ ⟨rfl,rfl⟩;refine A7 ?_;exact BL (b16,b4) trivial covZ selZ
   ·refine BU ?_; rintro _ _ ⟨b4,rfl,rfl⟩
    refine CH ?_ ?_
    ·refine BC ?_; rintro _ _ ⟨b16,rfl,rfl⟩
     refine BV (a_e rfl (CF (n:=x.t) rfl rfl rfl rfl rfl rfl (by omega)) rfl rfl rfl (by rintro _ _ ⟨b,rfl,rfl⟩ w hw; exact hw.tail) ?_); rintro _ _ ⟨b20,rfl,rfl⟩
     refine BR rfl (CW (l:=List.replicate x.t 0) (by rw [List.length_replicate]; rfl) (cells_own memZ) rfl rfl rfl) rfl rfl rfl rfl ?_
     refine BV (BI rfl hwr rfl rfl rdZ rfl rfl ?_); rintro _ rfl;refine BR rfl (A8 (out:=[int (x.a:Int),int (x.c:Int),int 7,int (x.o:Int),int (x.t:Int),int 1,int (x.n:Int),int (x.l:Int),int 1,int 4,.slice none 0 0,str x.d,.slice (some ⟨b16,0,none⟩) 1 1,str (wrB (List.replicate x.t 0) x.o x.d)]) rfl rfl rfl rfl rfl) rfl rfl rfl rfl ?_;refine BV ?_; refine' CU rfl _ rfl rfl _ _; rotate_left; (focus (apply BA; exact rfl; exact rfl; exact takeZ; exact oneZ; exact rfl; exact rfl)); (focus (rintro _ _ ⟨_,rfl⟩ w hw; exact hw.sel selZ)); rintro _ _ ⟨rfl,rfl⟩;refine A7 ?_;exact BL (b16,b4) trivial covZ selZ
    ·refine a_e rfl (CF (n:=x.t) rfl rfl rfl rfl rfl rfl (by omega)) rfl rfl rfl (by rintro _ _ ⟨b,rfl,rfl⟩ w hw; exact hw.tail) ?_; rintro _ _ ⟨b20,rfl,rfl⟩
     refine BR rfl (CW (l:=List.replicate x.t 0) (by rw [List.length_replicate]; rfl) (cells_own memZ) rfl rfl rfl) rfl rfl rfl rfl ?_
     refine CH ?_ ?_
     ·refine BC ?_; rintro _ _ ⟨b16,rfl,rfl⟩
      refine BV (BI rfl hwr rfl rfl rdZ rfl rfl ?_); rintro _ rfl;refine BR rfl (A8 (out:=[int (x.a:Int),int (x.c:Int),int 7,int (x.o:Int),int (x.t:Int),int 1,int (x.n:Int),int (x.l:Int),int 1,int 4,.slice none 0 0,str x.d,.slice (some ⟨b16,0,none⟩) 1 1,str (wrB (List.replicate x.t 0) x.o x.d)]) rfl rfl rfl rfl rfl) rfl rfl rfl rfl ?_;refine BV ?_; refine' CU rfl _ rfl rfl _ _; rotate_left; (focus (apply BA; exact rfl; exact rfl; exact takeZ; exact oneZ; exact rfl; exact rfl)); (focus (rintro _ _ ⟨_,rfl⟩ w hw; exact hw.sel selZ)); rintro _ _ ⟨rfl,rfl⟩;refine A7 ?_;exact BL (b16,b4) trivial covZ selZ
     ·refine BI rfl hwr rfl rfl rdZ rfl rfl ?_; rintro _ rfl
      refine BN ?_; rintro _ _ ⟨b16,rfl,rfl⟩;refine BR rfl (A8 (out:=[int (x.a:Int),int (x.c:Int),int 7,int (x.o:Int),int (x.t:Int),int 1,int (x.n:Int),int (x.l:Int),int 1,int 4,.slice none 0 0,str x.d,.slice (some ⟨b16,0,none⟩) 1 1,str (wrB (List.replicate x.t 0) x.o x.d)]) rfl rfl rfl rfl rfl) rfl rfl rfl rfl ?_;refine BV ?_; refine' CU rfl _ rfl rfl _ _; rotate_left; (focus (apply BA; exact rfl; exact rfl; exact takeZ; exact oneZ; exact rfl; exact rfl)); (focus (rintro _ _ ⟨_,rfl⟩ w hw; exact hw.sel selZ)); rintro _ _ ⟨rfl,rfl⟩;refine A7 ?_;exact BL (b16,b4) trivial covZ selZ
  ·refine a_e rfl (CF (n:=x.t) rfl rfl rfl rfl rfl rfl (by omega)) rfl rfl rfl (by rintro _ _ ⟨b,rfl,rfl⟩ w hw; exact hw.tail) ?_; rintro _ _ ⟨b20,rfl,rfl⟩
   refine BR rfl (CW (l:=List.replicate x.t 0) (by rw [List.length_replicate]; rfl) (cells_own memZ) rfl rfl rfl) rfl rfl rfl rfl ?_
   refine CH ?_ ?_
   ·refine BI rfl hsp rfl rfl rdZ rfl rfl ?_; rintro _ rfl
    refine EV ?_ ?_ ?_
    ·refine BC ?_; rintro _ _ ⟨b16,rfl,rfl⟩
     refine CH ?_ ?_
     ·refine BI rfl hwr rfl rfl rdZ rfl rfl ?_; rintro _ rfl
      refine BR rfl (A8 (out:=[int (x.a:Int),int (x.c:Int),int 7,int (x.o:Int),int (x.t:Int),int 1,int (x.n:Int),int (x.l:Int),int 1,int 4,.slice none 0 0,str x.d,.slice (some ⟨b16,0,none⟩) 1 1,str (wrB (List.replicate x.t 0) x.o x.d)]) rfl rfl rfl rfl rfl) rfl rfl rfl rfl ?_;refine CI ?_; rintro _ _ ⟨b4,rfl,rfl⟩;refine BV ?_; refine' CU rfl _ rfl rfl _ _; rotate_left; (focus (apply BA; exact rfl; exact rfl; exact takeZ; exact oneZ; exact rfl; exact rfl)); (focus (rintro _ _ ⟨_,rfl⟩ w hw; exact hw.sel selZ)); rintro _ _ ⟨rfl,rfl⟩;refine A7 ?_;exact BL (b16,b4) trivial covZ selZ
     ·refine BU ?_; rintro _ _ ⟨b4,rfl,rfl⟩
      refine BV (BI rfl hwr rfl rfl rdZ rfl rfl ?_); rintro _ rfl;refine BR rfl (A8 (out:=[int (x.a:Int),int (x.c:Int),int 7,int (x.o:Int),int (x.t:Int),int 1,int (x.n:Int),int (x.l:Int),int 1,int 4,.slice none 0 0,str x.d,.slice (some ⟨b16,0,none⟩) 1 1,str (wrB (List.replicate x.t 0) x.o x.d)]) rfl rfl rfl rfl rfl) rfl rfl rfl rfl ?_;refine BV ?_; refine' CU rfl _ rfl rfl _ _; rotate_left; (focus (apply BA; exact rfl; exact rfl; exact takeZ; exact oneZ; exact rfl; exact rfl)); (focus (rintro _ _ ⟨_,rfl⟩ w hw; exact hw.sel selZ)); rintro _ _ ⟨rfl,rfl⟩;refine A7 ?_;exact BL (b16,b4) trivial covZ selZ
    ·refine BI rfl hwr rfl rfl rdZ rfl rfl ?_; rintro _ rfl
     refine CH ?_ ?_
     ·refine BC ?_; rintro _ _ ⟨b16,rfl,rfl⟩
      refine BR rfl (A8 (out:=[int (x.a:Int),int (x.c:Int),int 7,int (x.o:Int),int (x.t:Int),int 1,int (x.n:Int),int (x.l:Int),int 1,int 4,.slice none 0 0,str x.d,.slice (some ⟨b16,0,none⟩) 1 1,str (wrB (List.replicate x.t 0) x.o x.d)]) rfl rfl rfl rfl rfl) rfl rfl rfl rfl ?_;refine CI ?_; rintro _ _ ⟨b4,rfl,rfl⟩;refine BV ?_; refine' CU rfl _ rfl rfl _ _; rotate_left; (focus (apply BA; exact rfl; exact rfl; exact takeZ; exact oneZ; exact rfl; exact rfl)); (focus (rintro _ _ ⟨_,rfl⟩ w hw; exact hw.sel selZ)); rintro _ _ ⟨rfl,rfl⟩;refine A7 ?_;exact BL (b16,b4) trivial covZ selZ
     ·refine BU ?_; rintro _ _ ⟨b4,rfl,rfl⟩
      refine BN ?_; rintro _ _ ⟨b16,rfl,rfl⟩;refine BR rfl (A8 (out:=[int (x.a:Int),int (x.c:Int),int 7,int (x.o:Int),int (x.t:Int),int 1,int (x.n:Int),int (x.l:Int),int 1,int 4,.slice none 0 0,str x.d,.slice (some ⟨b16,0,none⟩) 1 1,str (wrB (List.replicate x.t 0) x.o x.d)]) rfl rfl rfl rfl rfl) rfl rfl rfl rfl ?_;refine BV ?_; refine' CU rfl _ rfl rfl _ _; rotate_left; (focus (apply BA; exact rfl; exact rfl; exact takeZ; exact oneZ; exact rfl; exact rfl)); (focus (rintro _ _ ⟨_,rfl⟩ w hw; exact hw.sel selZ)); rintro _ _ ⟨rfl,rfl⟩;refine A7 ?_;exact BL (b16,b4) trivial covZ selZ
    ·refine BU ?_; rintro _ _ ⟨b4,rfl,rfl⟩
     refine CH ?_ ?_
     ·refine BC ?_; rintro _ _ ⟨b16,rfl,rfl⟩
      refine BV (BI rfl hwr rfl rfl rdZ rfl rfl ?_); rintro _ rfl;refine BR rfl (A8 (out:=[int (x.a:Int),int (x.c:Int),int 7,int (x.o:Int),int (x.t:Int),int 1,int (x.n:Int),int (x.l:Int),int 1,int 4,.slice none 0 0,str x.d,.slice (some ⟨b16,0,none⟩) 1 1,str (wrB (List.replicate x.t 0) x.o x.d)]) rfl rfl rfl rfl rfl) rfl rfl rfl rfl ?_;refine BV ?_; refine' CU rfl _ rfl rfl _ _; rotate_left; (focus (apply BA; exact rfl; exact rfl; exact takeZ; exact oneZ; exact rfl; exact rfl)); (focus (rintro _ _ ⟨_,rfl⟩ w hw; exact hw.sel selZ)); rintro _ _ ⟨rfl,rfl⟩;refine A7 ?_;exact BL (b16,b4) trivial covZ selZ
     ·refine BI rfl hwr rfl rfl rdZ rfl rfl ?_; rintro _ rfl
      refine BN ?_; rintro _ _ ⟨b16,rfl,rfl⟩;refine BR rfl (A8 (out:=[int (x.a:Int),int (x.c:Int),int 7,int (x.o:Int),int (x.t:Int),int 1,int (x.n:Int),int (x.l:Int),int 1,int 4,.slice none 0 0,str x.d,.slice (some ⟨b16,0,none⟩) 1 1,str (wrB (List.replicate x.t 0) x.o x.d)]) rfl rfl rfl rfl rfl) rfl rfl rfl rfl ?_;refine BV ?_; refine' CU rfl _ rfl rfl _ _; rotate_left; (focus (apply BA; exact rfl; exact rfl; exact takeZ; exact oneZ; exact rfl; exact rfl)); (focus (rintro _ _ ⟨_,rfl⟩ w hw; exact hw.sel selZ)); rintro _ _ ⟨rfl,rfl⟩;refine A7 ?_;exact BL (b16,b4) trivial covZ selZ
   ·refine BU ?_; rintro _ _ ⟨b4,rfl,rfl⟩
    refine BV (BI rfl hsp rfl rfl rdZ rfl rfl ?_); rintro _ rfl;refine CH ?_ ?_
    ·refine BC ?_; rintro _ _ ⟨b16,rfl,rfl⟩
     refine BV (BI rfl hwr rfl rfl rdZ rfl rfl ?_); rintro _ rfl;refine BR rfl (A8 (out:=[int (x.a:Int),int (x.c:Int),int 7,int (x.o:Int),int (x.t:Int),int 1,int (x.n:Int),int (x.l:Int),int 1,int 4,.slice none 0 0,str x.d,.slice (some ⟨b16,0,none⟩) 1 1,str (wrB (List.replicate x.t 0) x.o x.d)]) rfl rfl rfl rfl rfl) rfl rfl rfl rfl ?_;refine BV ?_; refine' CU rfl _ rfl rfl _ _; rotate_left; (focus (apply BA; exact rfl; exact rfl; exact takeZ; exact oneZ; exact rfl; exact rfl)); (focus (rintro _ _ ⟨_,rfl⟩ w hw; exact hw.sel selZ)); rintro _ _ ⟨rfl,rfl⟩;refine A7 ?_;exact BL (b16,b4) trivial covZ selZ
    ·refine BI rfl hwr rfl rfl rdZ rfl rfl ?_; rintro _ rfl
     refine BN ?_; rintro _ _ ⟨b16,rfl,rfl⟩;refine BR rfl (A8 (out:=[int (x.a:Int),int (x.c:Int),int 7,int (x.o:Int),int (x.t:Int),int 1,int (x.n:Int),int (x.l:Int),int 1,int 4,.slice none 0 0,str x.d,.slice (some ⟨b16,0,none⟩) 1 1,str (wrB (List.replicate x.t 0) x.o x.d)]) rfl rfl rfl rfl rfl) rfl rfl rfl rfl ?_;refine BV ?_; refine' CU rfl _ rfl rfl _ _; rotate_left; (focus (apply BA; exact rfl; exact rfl; exact takeZ; exact oneZ; exact rfl; exact rfl)); (focus (rintro _ _ ⟨_,rfl⟩ w hw; exact hw.sel selZ)); rintro _ _ ⟨rfl,rfl⟩;refine A7 ?_;exact BL (b16,b4) trivial covZ selZ
  ·refine BU ?_; rintro _ _ ⟨b4,rfl,rfl⟩
   refine CH ?_ ?_
   ·refine BI rfl hsp rfl rfl rdZ rfl rfl ?_; rintro _ rfl
    refine CH ?_ ?_
    ·refine BC ?_; rintro _ _ ⟨b16,rfl,rfl⟩
     refine BV (a_e rfl (CF (n:=x.t) rfl rfl rfl rfl rfl rfl (by omega)) rfl rfl rfl (by rintro _ _ ⟨b,rfl,rfl⟩ w hw; exact hw.tail) ?_); rintro _ _ ⟨b20,rfl,rfl⟩
     refine BR rfl (CW (l:=List.replicate x.t 0) (by rw [List.length_replicate]; rfl) (cells_own memZ) rfl rfl rfl) rfl rfl rfl rfl ?_
     refine BV (BI rfl hwr rfl rfl rdZ rfl rfl ?_); rintro _ rfl;refine BR rfl (A8 (out:=[int (x.a:Int),int (x.c:Int),int 7,int (x.o:Int),int (x.t:Int),int 1,int (x.n:Int),int (x.l:Int),int 1,int 4,.slice none 0 0,str x.d,.slice (some ⟨b16,0,none⟩) 1 1,str (wrB (List.replicate x.t 0) x.o x.d)]) rfl rfl rfl rfl rfl) rfl rfl rfl rfl ?_;refine BV ?_; refine' CU rfl _ rfl rfl _ _; rotate_left; (focus (apply BA; exact rfl; exact rfl; exact takeZ; exact oneZ; exact rfl; exact rfl)); (focus (rintro _ _ ⟨_,rfl⟩ w hw; exact hw.sel selZ)); rintro _ _ ⟨rfl,rfl⟩;refine A7 ?_;exact BL (b16,b4) trivial covZ selZ
    ·refine a_e rfl (CF (n:=x.t) rfl rfl rfl rfl rfl rfl (by omega)) rfl rfl rfl (by rintro _ _ ⟨b,rfl,rfl⟩ w hw; exact hw.tail) ?_; rintro _ _ ⟨b20,rfl,rfl⟩
     refine BR rfl (CW (l:=List.replicate x.t 0) (by rw [List.length_replicate]; rfl) (cells_own memZ) rfl rfl rfl) rfl rfl rfl rfl ?_
     refine CH ?_ ?_
     ·refine BC ?_; rintro _ _ ⟨b16,rfl,rfl⟩
      refine BV (BI rfl hwr rfl rfl rdZ rfl rfl ?_); rintro _ rfl;refine BR rfl (A8 (out:=[int (x.a:Int),int (x.c:Int),int 7,int (x.o:Int),int (x.t:Int),int 1,int (x.n:Int),int (x.l:Int),int 1,int 4,.slice none 0 0,str x.d,.slice (some ⟨b16,0,none⟩) 1 1,str (wrB (List.replicate x.t 0) x.o x.d)]) rfl rfl rfl rfl rfl) rfl rfl rfl rfl ?_;refine BV ?_; refine' CU rfl _ rfl rfl _ _; rotate_left; (focus (apply BA; exact rfl; exact rfl; exact takeZ; exact oneZ; exact rfl; exact rfl)); (focus (rintro _ _ ⟨_,rfl⟩ w hw; exact hw.sel selZ)); rintro _ _ ⟨rfl,rfl⟩;refine A7 ?_;exact BL (b16,b4) trivial covZ selZ
     ·refine BI rfl hwr rfl rfl rdZ rfl rfl ?_; rintro _ rfl
      refine BN ?_; rintro _ _ ⟨b16,rfl,rfl⟩;refine BR rfl (A8 (out:=[int (x.a:Int),int (x.c:Int),int 7,int (x.o:Int),int (x.t:Int),int 1,int (x.n:Int),int (x.l:Int),int 1,int 4,.slice none 0 0,str x.d,.slice (some ⟨b16,0,none⟩) 1 1,str (wrB (List.replicate x.t 0) x.o x.d)]) rfl rfl rfl rfl rfl) rfl rfl rfl rfl ?_;refine BV ?_; refine' CU rfl _ rfl rfl _ _; rotate_left; (focus (apply BA; exact rfl; exact rfl; exact takeZ; exact oneZ; exact rfl; exact rfl)); (focus (rintro _ _ ⟨_,rfl⟩ w hw; exact hw.sel selZ)); rintro _ _ ⟨rfl,rfl⟩;refine A7 ?_;exact BL (b16,b4) trivial covZ selZ
   ·refine a_e rfl (CF (n:=x.t) rfl rfl rfl rfl rfl rfl (by omega)) rfl rfl rfl (by rintro _ _ ⟨b,rfl,rfl⟩ w hw; exact hw.tail) ?_; rintro _ _ ⟨b20,rfl,rfl⟩
    refine BR rfl (CW (l:=List.replicate x.t 0) (by rw [List.length_replicate]; rfl) (cells_own memZ) rfl rfl rfl) rfl rfl rfl rfl ?_
    refine BV (BI rfl hsp rfl rfl rdZ rfl rfl ?_); rintro _ rfl;refine CH ?_ ?_
    ·refine BC ?_; rintro _ _ ⟨b16,rfl,rfl⟩
     refine BV (BI rfl hwr rfl rfl rdZ rfl rfl ?_); rintro _ rfl;refine BR rfl (A8 (out:=[int (x.a:Int),int (x.c:Int),int 7,int (x.o:Int),int (x.t:Int),int 1,int (x.n:Int),int (x.l:Int),int 1,int 4,.slice none 0 0,str x.d,.slice (some ⟨b16,0,none⟩) 1 1,str (wrB (List.replicate x.t 0) x.o x.d)]) rfl rfl rfl rfl rfl) rfl rfl rfl rfl ?_;refine BV ?_; refine' CU rfl _ rfl rfl _ _; rotate_left; (focus (apply BA; exact rfl; exact rfl; exact takeZ; exact oneZ; exact rfl; exact rfl)); (focus (rintro _ _ ⟨_,rfl⟩ w hw; exact hw.sel selZ)); rintro _ _ ⟨rfl,rfl⟩;refine A7 ?_;exact BL (b16,b4) trivial covZ selZ
    ·refine BI rfl hwr rfl rfl rdZ rfl rfl ?_; rintro _ rfl
     refine BN ?_; rintro _ _ ⟨b16,rfl,rfl⟩;refine BR rfl (A8 (out:=[int (x.a:Int),int (x.c:Int),int 7,int (x.o:Int),int (x.t:Int),int 1,int (x.n:Int),int (x.l:Int),int 1,int 4,.slice none 0 0,str x.d,.slice (some ⟨b16,0,none⟩) 1 1,str (wrB (List.replicate x.t 0) x.o x.d)]) rfl rfl rfl rfl rfl) rfl rfl rfl rfl ?_;refine BV ?_; refine' CU rfl _ rfl rfl _ _; rotate_left; (focus (apply BA; exact rfl; exact rfl; exact takeZ; exact oneZ; exact rfl; exact rfl)); (focus (rintro _ _ ⟨_,rfl⟩ w hw; exact hw.sel selZ)); rintro _ _ ⟨rfl,rfl⟩;refine A7 ?_;exact BL (b16,b4) trivial covZ selZ
 rintro ⟨b16,b4⟩ -
 dsimp only
 refine Ab8 ?_;refine AR ?_;refine AL hpa rfl rfl rdZ rfl rfl ?_;rintro _ rfl;refine AF ?_;refine AF ?_
 refine B4 (D0 (vs:=[int (x.a:Int),int (x.c:Int),int 7,int 0,int 0]) rfl rfl oneZ rfl takeZ (by show 0+5≤14; omega)) rfl rfl ?_
 rintro _ _ ⟨_,rfl⟩
 change JK _ _ _ (sng b4 (.cells #[int (x.a:Int),int (x.c:Int),int 7,int 0,int 0,int 1,int (x.n:Int),int (x.l:Int),int 1,int 4,.slice none 0 0,str x.d,.slice (some ⟨b16,0,none⟩) 1 1,str (wrB (List.replicate x.t 0) x.o x.d)] 95 (0,0))::_) _ _
 refine AE ?_;refine Ab8 ?_;refine AF ?_;refine A6 ?_; rintro _ _ ⟨rfl,rfl⟩;refine Aal ?_;refine Abr ?_;refine C1 ?_;refine Aau ?_;refine AA ?_;refine Aac ?_;refine AL hcp rfl rfl rdZ rfl rfl ?_;rintro _ rfl;refine AF ?_;refine AF ?_;refine A6 ?_; rintro _ _ ⟨rfl,rfl⟩;refine AE ?_;refine Aat ?_;refine A4 ?_; rintro _ _ ⟨rfl,rfl⟩;refine Aaa ?_;exact AP (H':=[sng b16 (.cells #[int (x.o:Int),int ((x.o+x.d.length:Nat):Int)] 71 (0,0))]) (resSE (b1:=b2) (T:=95) (v1:=[int (x.a:Int),int (x.c:Int),int 7,int 0,int 0,int 1,int (x.n:Int),int (x.l:Int),int 1,int 4,.slice none 0 0,str [],.slice (some ⟨b16,0,none⟩) 1 1,str (wrB (List.replicate x.t 0) x.o x.d)]) rfl rfl rfl rfl rfl (cells_own memZ)) rsubZ selZ ⟨_,⟨b16,rfl,knAt_sng⟩,rfl⟩
end Go.Proofs.YtjopknnkcnehmaaGreatDoor
