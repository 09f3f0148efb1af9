/- Texts of this proof, one after the other; no conditions. -/
import Derived.Test.YtglifndogffmkaaGreatWB8
import Derived.Test.YtglifndogffmkaaGreatWB2
import Derived.Test.YtglifndogffmkaaGreatWB7
import Derived.Test.YtglifndogffmkaaGreatWB5
import Derived.Test.YtglifndogffmkaaGreatWB6
import Derived.Test.YtglifndogffmkaaGreatWB4
import Derived.Test.YtglifndogffmkaaGreatWB1
import Derived.Test.YtglifndogffmkaaGreatWB3
set_option linter.all false
/- Tickets in memory; the tables of a ledger. -/
namespace Go.Proofs.YtglifndogffmkaaGreat
open Go.Eng Go.Step
set_option maxRecDepth 100000
set_option maxHeartbeats 64000000
structure TkM where
 t:Tk
 p:Option Addr
 c:Nat
def encT (x:TkM):List Value:=[int x.t.k,int x.t.q.src,int x.t.q.dst,int x.t.q.size,int x.t.q.rdy,int x.t.q.dln,int x.t.q.pri,.bool x.t.q.cus,.slice x.p x.t.hops.length x.c,int 1,int 0]
theorem encT_len (x:TkM):(encT x).length=11:=rfl
structure LgAt (χ:PH) (Γ:List PH) (v:Value) (L:List TkM):Prop where
 tk:SlE encT 11 χ v L
 hp:∀ x∈L,∃ γ∈Γ,SlE encHp 4 γ (.slice x.p x.t.hops.length x.c) x.t.hops
theorem LgAt.mono {χ δ:PH} {Γ:List PH} {v:Value} {L:List TkM} (h:LgAt χ Γ v L) (hs:PH.sub χ δ) (hg:∀ γ∈Γ,PH.sub γ δ):LgAt δ [δ] v L:=⟨h.tk.mono hs,fun x hx=>by
 obtain ⟨γ,h1,h2⟩:=h.hp x hx
 exact ⟨δ,by simp,h2.mono (hg γ h1)⟩⟩
def TksOK (qs:List Int) (cs:List Ct) (L:List TkM):Prop:=∀ x∈L,okRq qs.length x.t.q∧RouOK cs x.t.q x.t.hops
theorem tlClone0_spec:Ans Tryz.prog (fv 68) [.slice none 0 0] [] (fun r=>r=.slice none 0 0):=by
 refine spec_in (cap:=[]) Tryz.func68 rfl rfl Tryz.ntmps68 rfl envZ (fun N β=>?_)
 refine Acm ?_
 focus ((refine' CK _ rfl rfl rfl _; rotate_left; (apply FA; exact rfl; exact rfl; exact rfl)))
 refine Abt ?_;exact A3 ⟨rfl,rfl⟩
section
variable {ρ τ:PH} {pq pc:Option Addr} {kq kc:Nat} {qs:List Int} {cs:List Ct}
theorem holdsW_len (cs:List Ct) (q:Rq) (k:Int):∀ (l:List Hp) (n f:Int),(holdsW cs q k n f l).length=l.length
 | [],_,_=>rfl
 | h::l,n,f=>by simp [holdsW,holdsW_len cs q k l]
theorem ones_H:∀ (l:List Hd),∀ u∈l.flatMap encH,u.oneCell'=true:=fun l u hu=>by
 obtain ⟨x,_,hx⟩:=List.mem_flatMap.1 hu
 simp only [encH,List.mem_cons,List.not_mem_nil,or_false] at hx
 rcases hx with rfl|rfl|rfl|rfl|rfl <;> rfl
theorem tlTables_spec (hq:IntsAt ρ (.slice pq qs.length kq) qs) (hc:CtAt τ (.slice pc cs.length kc) cs) (hcap:cs.length≤kc) (lq:qs.length≤9223372036854775807) (lc:cs.length≤9223372036854775807) (hp:chkPl qs cs=0) {χ:PH} {Γ:List PH} {pt:Option Addr} {kt:Nat} {L:List TkM} (hL:LgAt χ Γ (.slice pt L.length kt) L) (hl:L.length≤5) (hok:TksOK qs cs L) :
  Eng.Spec Tryz.prog (fv 22) [.agg #[.slice pq qs.length kq,.slice pc cs.length kc,.slice none 0 0,.slice pt L.length kt]] (τ::χ::Γ) [] (fun r H'=>∃ (bs:List Bk) (hs:List Hd) (pb ph:Option Addr) (kb kh:Nat) (σ υ:PH),r=.agg #[.slice pq qs.length kq,.slice pc cs.length kc,.slice pb bs.length kb,.slice ph hs.length kh]∧bs.Perm (rawB (L.map (·.t)))∧BkW bs∧hs.Perm (rawH cs (L.map (·.t)))∧SortH hs∧OwnS 158 4 (.slice pb bs.length kb) bs.length (bs.flatMap encB) σ∧OwnS 246 5 (.slice ph hs.length kh) hs.length (hs.flatMap encH) υ∧H'=[σ,υ]):=by
 have hbk:=fun {lam:PH} {pv:Option Addr} {cv:Nat} {l:List Hp} (hv:SlE encHp 4 lam (.slice pv l.length cv) l) hl k=>tlBks_spec hv hl k
 have hho:=fun {q:Rq} hs hr0 {lam:PH} {pv:Option Addr} {cv:Nat} {l:List Hp} (hv:SlE encHp 4 lam (.slice pv l.length cv) l) hl k u hch=>tlHolds_spec (ρ:=ρ) (q:=q) hq hc hcap lq lc hp hs hr0 hv hl k u hch
 obtain ⟨hTk,hHp⟩:=hL
 obtain ⟨_,_,e,hrt⟩:=SlE.val encT_len hTk
 simp only [Value.slice.injEq] at e
 obtain ⟨rfl,_,rfl⟩:=e
 refine spec_in (cap:=[]) Tryz.func22 rfl rfl Tryz.ntmps22 rfl envZ (fun N β=>?_)
 refine Aa ?_;refine BH (BI rfl) rfl rfl rfl ?_;rintro _ _ ⟨b1,rfl,rfl⟩;refine BH (CH rfl) rfl rfl rfl ?_;rintro _ _ ⟨b2,rfl,rfl⟩;refine AQ (ρ:=sng b1 _) takeZ ?_
 have bx68_3:=rdB b1 36 [.slice pq qs.length kq,.slice pc cs.length kc,.slice none 0 0,.slice pt L.length kt]
 have cg2:=rdC bx68_3 2
 have cg3:=rdC bx68_3 3
 have cgp:=rdQ (xs:=[_,_]) bx68_3
 refine CC ?_;refine CC ?_;refine Aam ?_
 refine C9 (X:=Nat) [1,2] (fun _=>True) (fun x=>[(3,.pointer (some ⟨x,0,none⟩))]) (fun x=>[sng x (.cells #[.slice pq qs.length kq,.slice pc cs.length kc,.slice none 0 0,.slice none 0 0] 42 (0,0)),sng b2 (.cells #[.slice none 0 0,.slice none 0 0,.slice none 0 0,.slice none 0 0] 42 (0,0)),emp,emp]) pickZ ?_ ?_
 ·refine BD (.q 0 (.q 1 (.q 2 (.q 3 (.l2 4 .e (.q 5 (.l 6 .e (.l 7 .b .nil))) 6 .e (.l 4 .e (.q 5 (.l 7 .b .nil)))))))) [] rfl (by kernel_rfl) selZ ?_
  repeat' (first
   | (refine AP ?_)
   | (refine AS ?_)
   | (refine A8 ?_)
   | (focus ((refine BP rfl tlClone0_spec rfl rfl rdZ rfl rfl ?_; rintro _ rfl)))
   | (focus ((refine B4 (BP rfl tlClone0_spec rfl rfl rdZ rfl rfl ?_); rintro _ rfl)))
   | (refine BE ?_)
   | (refine EE ?_ ?_)
   | (focus ((refine' CQ rfl _ rfl rfl rfl rfl _; rotate_left; (apply CT (out:=[.slice pq qs.length kq,.slice pc cs.length kc,.slice none 0 0,.slice none 0 0]); exact rfl; exact rfl; exact rfl; exact rfl; exact rfl))))
   | (focus ((refine B4 ?_; refine' DQ rfl _ rfl rfl _ _; rotate_left; (apply C7; exact rfl; exact rfl; exact takeZ; exact oneZ; exact rfl; exact rfl); (focus (rintro _ _ ⟨_,rfl⟩ w hw; exact hw.sel selZ)); rintro _ _ ⟨rfl,rfl⟩)))
   | (refine EJ ?_; rintro _ _ ⟨b,rfl,rfl⟩)
   | (refine EI ?_; rintro _ _ ⟨b,rfl,rfl⟩)
   | fail)
  all_goals exact B8 _ trivial covZ selZ
 rintro b3 _;refine AC ?_;refine Aan ?_;refine Abk ?_
 refine BF [1,2,3,13,14] (X:=(Nat × (List Bk × List Hd)) × ((Value × PH) × (Value × PH))) ((0,([],[])),((.slice none 0 0,emp),(.slice none 0 0,emp))) (fun z=>z.1.1≤L.length∧z.1.2.1.Perm (rawB ((L.take z.1.1).map (·.t)))∧z.1.2.2=rawH cs ((L.take z.1.1).map (·.t))∧z.1.2.1.length≤1000*z.1.1∧z.1.2.2.length≤1000*z.1.1∧OwnS 158 4 z.2.1.1 z.1.2.1.length (z.1.2.1.flatMap encB) z.2.1.2∧OwnS 246 5 z.2.2.1 z.1.2.2.length (z.1.2.2.flatMap encH) z.2.2.2) (fun z=>[(15,int (z.1.1:Int))]) (fun z=>[sng b3 (.cells #[.slice pq qs.length kq,.slice pc cs.length kc,z.2.1.1,z.2.2.1] 42 (0,0)),sng b2 (.cells #[.slice none 0 0,.slice none 0 0,.slice none 0 0,.slice none 0 0] 42 (0,0)),z.2.1.2,z.2.2.2]) (fun z=>L.length-z.1.1) pickZ ⟨Nat.zero_le _,List.Perm.refl _,rfl,Nat.zero_le _,Nat.zero_le _,OwnS.nil _ _,OwnS.nil _ _⟩ covZ selZ ?_
 rintro ⟨⟨i,⟨B,D⟩⟩,⟨⟨vb,σ⟩,⟨vh,υ⟩⟩⟩ ⟨hi,hB,hD,lB,lD,hOB,hOH⟩
 dsimp only at hi hB hD lB lD hOB hOH ⊢
 have hvb:=oneO _ _ _ _ hOB
 have hvh:=oneO _ _ _ _ hOH
 by_cases hlt:i<L.length
 ·have hx:=List.getElem?_eq_getElem hlt
  have hxm:=List.getElem_mem hlt
  have htk:(L.take (i+1)).map (·.t)=(L.take i).map (·.t) ++ [L[i].t]:=by rw [List.take_add_one,hx,List.map_append]; rfl
  obtain ⟨bl,ol,rfl,hrd⟩:=hrt i _ hx
  obtain ⟨ok1,ok2⟩:=hok _ hxm
  obtain ⟨lam,hlam,hpp⟩:=hHp _ hxm
  generalize L[i]=x at hx hxm htk hrd ok1 ok2 hpp
  obtain ⟨⟨kx,q,hops⟩,px,cx⟩:=x
  dsimp only at ok1 ok2 hpp htk
  have hrd:RdN χ bl (ol+i*11) [int kx,int q.src,int q.dst,int q.size,int q.rdy,int q.dln,int q.pri,.bool q.cus,.slice px hops.length cx,int 1,int 0]:=hrd
  have hbk1:=hbk hpp ok2.len kx
  have hho1:=hho (q:=q) ⟨ok1.2.2.1.1,ok1.2.2.1.2.1⟩ ok1.2.2.1.2.2.1 hpp ok2.len kx 0 ok2.ch
  have hlh:=holdsW_len cs q kx hops q.src q.rdy
  have hll:=ok2.len
  have hD2:rawH cs ((L.take (i+1)).map (·.t))=D ++ holdsW cs q kx q.src q.rdy hops:=by rw [htk,hD]; simp [rawH,hdsT]
  have hB2:∀ bs:List Bk,bs.Perm (hops.map (bkOf kx))→(B ++ bs).Perm (rawB ((L.take (i+1)).map (·.t))):=fun bs h=>by
   rw [htk]
   have e:rawB ((L.take i).map (·.t) ++ [(⟨kx,q,hops⟩:Tk)])=rawB ((L.take i).map (·.t)) ++ hops.map (bkOf kx):=by simp [rawB,bksT]
   rw [e];exact List.Perm.append hB h
  generalize holdsW cs q kx q.src q.rdy hops=hw at hho1 hlh hD2
  refine Ab2 ?_;refine A4 ?_; rintro _ _ ⟨b,rfl,rfl⟩;refine AW ?_; rintro _ _ ⟨rfl,rfl⟩;refine Aam ?_
  revert b; intro b5
  refine AQ (ρ:=sng b5 _) takeZ ?_
  have bx147_3:=rdB b5 106 [int kx,int q.src,int q.dst,int q.size,int q.rdy,int q.dln,int q.pri,.bool q.cus,.slice px hops.length cx,int 1,int 0]
  have z0:=rdC bx147_3 0
  have z8:=rdC bx147_3 8
  have z10:=rdC bx147_3 10
  have zp:RdP (sng b5 (.cells #[int kx,int q.src,int q.dst,int q.size,int q.rdy,int q.dln,int q.pri,.bool q.cus,.slice px hops.length cx,int 1,int 0] 106 (0,0))) b5 1 [int q.src,int q.dst,int q.size,int q.rdy,int q.dln,int q.pri,.bool q.cus]:=rdP_sng (xs:=[int kx,int q.src,int q.dst,int q.size,int q.rdy,int q.dln,int q.pri,.bool q.cus,.slice px hops.length cx,int 1,int 0]) rfl
  refine BD (.q 0 (.q 1 (.q 2 (.q 3 (.q 4 (.q 5 (.l 6 .e (.l 7 .b (.q 8 (.l 9 .b .nil)))))))))) [] rfl (by kernel_rfl) selZ ?_
  refine Abf ?_;refine Aak ?_
  refine B4 (DV rfl hbk1 rfl rfl (fun z hz=>by rw [List.mem_singleton] at hz; subst hz; exact .inl (by simp [hlam])) rfl rfl ?_)
  rintro vn _ ⟨χ1,⟨bs1,hp1,hO1⟩,rfl⟩
  have hl1:=hp1.length_eq
  rw [List.length_map] at hl1;simp only [List.cons_append,List.nil_append]
  skip
  refine B4 (a_b rfl (DY (by_:=32) (s:=4) (σ:=χ1) (news:=bs1.flatMap encB) (m:=bs1.length) rfl rfl rfl rfl rfl rfl rfl hOB takeZ hO1.at (fun b o h=>cellsH h memZ) (ones_B bs1) (by simp only [maxLen]; omega) (by omega)) rfl rfl rfl (fun _ _ _ w hw=>hw.sel Sel.nil) ?_)
  rintro vb2 _ ⟨σ2,hOB2,rfl⟩
  have hvb2:=oneO _ _ _ _ hOB2
  refine AS ?_;refine CN ?_; rintro _ _ ⟨rfl,rfl⟩;refine BE ?_
  skip
  refine BD (.q 0 (.q 1 (.q 2 (.q 3 (.q 4 (.q 5 (.q 6 (.q 7 (.q 8 (.q 9 (.q 10 (.q 11 (.l 12 .e (.l 13 .b (.q 14 (.l 15 .b .nil)))))))))))))))) [] rfl (by kernel_rfl) selZ ?_
  refine Aak ?_;refine AS ?_;refine A8 ?_;refine AS ?_;refine A8 ?_;refine Abf ?_;refine Aak ?_
  refine B4 (DV rfl hho1 rfl rfl (fun z hz=>by simp only [List.mem_cons,List.not_mem_nil,or_false] at hz; rcases hz with rfl|rfl; exact .inl (by simp); exact .inl (by simp [hlam])) rfl rfl ?_)
  rintro vn2 _ ⟨χ2,hO2,rfl⟩;simp only [List.cons_append,List.nil_append]
  skip
  refine B4 (a_b rfl (DY (by_:=40) (s:=5) (σ:=χ2) (news:=hw.flatMap encH) (m:=hw.length) rfl rfl rfl rfl rfl rfl rfl hOH takeZ hO2.at (fun b o h=>cellsH h memZ) (ones_H hw) (by simp only [maxLen]; omega) (by omega)) rfl rfl rfl (fun _ _ _ w hw=>hw.sel Sel.nil) ?_)
  rintro vh2 _ ⟨υ2,hOH2,rfl⟩
  have hvh2:=oneO _ _ _ _ hOH2
  refine AS ?_;refine CN ?_; rintro _ _ ⟨rfl,rfl⟩;refine BE ?_;refine Aa3 ?_;refine BS ?_
  refine AY ((i+1,(B ++ bs1,D ++ hw)),((vb2,σ2),(vh2,υ2))) ⟨by dsimp only; omega,hB2 bs1 hp1,hD2.symm,by dsimp only; rw [List.length_append]; omega,by dsimp only; rw [List.length_append]; omega,by dsimp only; rw [List.length_append,List.flatMap_append]; exact hOB2,by dsimp only; rw [List.length_append,List.flatMap_append]; exact hOH2⟩ (by dsimp only; omega) covZ selZ
 have hke:i=L.length:=by omega
 subst hke;rw [List.take_length] at hB hD
 obtain ⟨pb,kb,rfl⟩:=hOB.form
 obtain ⟨ph,kh,rfl⟩:=hOH.form
 have hso:=tlSorted_spec pq pc pb ph qs.length cs.length kq kc kb kh B D σ υ hOB hOH (by omega) (by omega)
 refine Abl ?_;refine Aas ?_;refine BA hso rfl rfl takesZ rdZ rfl rfl ?_;rintro _ _ ⟨rfl,bs',hs',σ',υ',p1,s1,p2,s2,o1,o2,rfl⟩;simp only [List.cons_append,List.nil_append];refine AW ?_; rintro _ _ ⟨rfl,rfl⟩;refine AE ?_
 have l1:=p1.length_eq
 have l2:=p2.length_eq
 refine AT (resS1 (b1:=b2) (T:=42) (v1:=[.slice pq qs.length kq,.slice pc cs.length kc,.slice pb B.length kb,.slice ph D.length kh]) rfl rfl rfl rfl (cells_own memZ)) rsubZ selZ ⟨bs',hs',pb,ph,kb,kh,σ',υ',by rw [l1,l2],p1.trans hB,s1,by rw [← hD]; exact p2,s2,by rw [l1] at o1 ⊢; exact o1,by rw [l2] at o2 ⊢; exact o2,rfl⟩
end
end Go.Proofs.YtglifndogffmkaaGreat
namespace Go.Proofs.YtglifndogffmkaaGreat
open Go.Eng Go.Step
set_option maxRecDepth 100000
set_option maxHeartbeats 64000000
theorem tlIdx0_spec (fn:Value):Ans Tryz.prog (fv 131) [.slice none 0 0,fn] [] (fun r=>r=int (-1)):=by
 refine spec_in (cap:=[]) Tryz.func131 rfl rfl Tryz.ntmps131 rfl envZ (fun N β=>?_)
 refine Adf ?_
 refine BF [0,1,6,7] (X:=Unit) () (fun _=>True) (fun _=>[(8,int 0)]) (fun _=>[]) (fun _=>0) pickZ trivial covZ selZ ?_
 rintro _ _;refine Abl ?_;refine Aaq ?_;exact A3 ⟨rfl,rfl⟩
theorem tlCont0_spec (fn:Value):Ans Tryz.prog (fv 64) [.slice none 0 0,fn] [] (fun r=>r=.bool false):=by
 refine spec_in (cap:=[]) Tryz.func64 rfl rfl Tryz.ntmps64 rfl envZ (fun N β=>?_)
 refine Aaq ?_;refine Aag ?_;refine AZ (tlIdx0_spec fn) rfl rfl rdZ rfl rfl ?_;rintro _ rfl;refine CM ?_;refine Aaa ?_;exact A3 ⟨rfl,rfl⟩
section
variable {ρ τ:PH} {pq pc:Option Addr} {kq kc:Nat} {qs:List Int} {cs:List Ct}
theorem tlChkTk_spec (hq:IntsAt ρ (.slice pq qs.length kq) qs) (hc:CtAt τ (.slice pc cs.length kc) cs) (hcap:cs.length≤kc) (lq:qs.length≤9223372036854775807) (lc:cs.length≤9223372036854775807) (hp:chkPl qs cs=0) {χ:PH} (x:TkM) (hx:SlE encHp 4 χ (.slice x.p x.t.hops.length x.c) x.t.hops) (ho:okRq qs.length x.t.q) (hr:RouOK cs x.t.q x.t.hops) (before:Int) (hb:before<x.t.k) (hk:x.t.k≤1152921504606846976) :
  Ans Tryz.prog (fv 66) [.agg #[.slice pq qs.length kq,.slice pc cs.length kc],.agg #[int x.t.k,int x.t.q.src,int x.t.q.dst,int x.t.q.size,int x.t.q.rdy,int x.t.q.dln,int x.t.q.pri,.bool x.t.q.cus,.slice x.p x.t.hops.length x.c,int 1,int 0],int before] [ρ,τ,χ] (fun r=>r=int 0):=by
 obtain ⟨⟨kx,q,hops⟩,px,cx⟩:=x
 dsimp only at hx ho hr hb hk ⊢
 have hcr:=creq_spec (q:=q) hq hc hcap lq lc hp ho
 have hrc:=tlRouCheck_spec (q:=q) hq hc hcap lq lc hp ho hx hr
 refine spec_in (cap:=[]) Tryz.func66 rfl rfl Tryz.ntmps66 rfl envZ (fun N β=>?_)
 refine Aa ?_;refine BH (BI rfl) rfl rfl rfl ?_;rintro _ _ ⟨b3,rfl,rfl⟩;refine BH (BI rfl) rfl rfl rfl ?_;rintro _ _ ⟨b4,rfl,rfl⟩;refine AQ (ρ:=sng b3 _) takeZ ?_;refine AQ (ρ:=sng b4 _) takeZ ?_
 have cp:=rdB b3 25 [.slice pq qs.length kq,.slice pc cs.length kc]
 have bx71_3:=rdB b4 106 [int kx,int q.src,int q.dst,int q.size,int q.rdy,int q.dln,int q.pri,.bool q.cus,.slice px hops.length cx,int 1,int 0]
 have ct0:=rdC bx71_3 0
 have ct8:=rdC bx71_3 8
 have ct9:=rdC bx71_3 9
 have ct10:=rdC bx71_3 10
 have zp:RdP (sng b4 (.cells #[int kx,int q.src,int q.dst,int q.size,int q.rdy,int q.dln,int q.pri,.bool q.cus,.slice px hops.length cx,int 1,int 0] 106 (0,0))) b4 1 [int q.src,int q.dst,int q.size,int q.rdy,int q.dln,int q.pri,.bool q.cus]:=rdP_sng (xs:=[int kx,int q.src,int q.dst,int q.size,int q.rdy,int q.dln,int q.pri,.bool q.cus,.slice px hops.length cx,int 1,int 0]) rfl
 refine Aaj ?_;refine Aan ?_;refine AB ?_;refine DA ?_;refine Aay ?_;refine BW ?_;refine AV ?_;refine Aa6 ?_;refine Aan ?_;refine BO ?_;refine Abd ?_;refine AV ?_;refine Aa6 ?_;refine Aas ?_;refine Ab7 ?_;refine AZ hcr rfl rfl rdZ rfl rfl ?_;rintro _ rfl;refine BO ?_;refine Aai ?_;refine Aas ?_;refine Ab7 ?_;refine Aae ?_;refine AZ hrc rfl rfl rdZ rfl rfl ?_;rintro _ rfl;refine Abx ?_;refine CO ?_;refine Aal ?_;refine CO ?_;refine A2 ?_;refine Aay ?_;refine CO ?_;refine A2 ?_;refine Abx ?_;refine CA ?_;refine Ab5 ?_;refine Aaf ?_;refine Aaf ?_;refine AV ?_;refine Abd ?_;refine AV ?_;refine Abd ?_;refine AV ?_;refine Ade ?_;refine Aa0 ?_;refine Ab3 ?_;refine Aaq ?_;exact A3 ⟨rfl,rfl⟩
theorem tlCheck_spec (hq:IntsAt ρ (.slice pq qs.length kq) qs) (hc:CtAt τ (.slice pc cs.length kc) cs) (hcap:cs.length≤kc) (lq:qs.length≤9223372036854775807) (lc:cs.length≤9223372036854775807) (hp:chkPl qs cs=0) {χ:PH} {Γ:List PH} {pt:Option Addr} {kt:Nat} {L:List TkM} (hL:LgAt χ Γ (.slice pt L.length kt) L) (hok:LgOK qs cs (L.map (·.t))) :
  Ans Tryz.prog (fv 21) [.agg #[.slice pq qs.length kq,.slice pc cs.length kc,.slice none 0 0,.slice pt L.length kt]] (ρ::τ::χ::Γ) (fun r=>r=int 0):=by
 have hll:L.length≤4:=by have:=hok.len; rwa [List.length_map] at this
 have htk:TksOK qs cs L:=fun x hx=>hok.tk _ (List.mem_map.2 ⟨x,hx,rfl⟩)
 have hnum:∀ (i:Nat) (x:TkM),L[i]?=some x→x.t.k=(i:Int)+1:=fun i x hx=>hok.num i x.t (by rw [List.getElem?_map,hx]; rfl)
 have hta:=tlTables_spec hq hc hcap lq lc hp hL (by omega) htk
 have hpc:=planCheck_spec ρ τ pq pc kq kc qs cs hq hc hcap lq lc
 rw [hp] at hpc
 have hbc:=bkCheck_spec ρ τ emp pq pc kq kc qs cs (.slice none 0 0) [] hq hc hcap lq lc (OwnS.nil 158 4).at (by simp)
 have hb0:chkB qs cs []=0:=by unfold chkB; rw [if_neg (by simp [hp]),if_neg (by simp)]; rfl
 rw [hb0] at hbc
 have hck:=fun (lam:PH) (x:TkM) hx ho hr before hb hk=>tlChkTk_spec hq hc hcap lq lc hp (χ:=lam) x hx ho hr before hb hk
 have hLg:=hL
 obtain ⟨hTk,hHp⟩:=hL
 obtain ⟨_,_,e,hrt⟩:=SlE.val encT_len hTk
 simp only [Value.slice.injEq] at e
 obtain ⟨rfl,_,rfl⟩:=e
 refine spec_in (cap:=[]) Tryz.func21 rfl rfl Tryz.ntmps21 rfl envZ (fun N β=>?_)
 refine Aa ?_;refine BH (BI rfl) rfl rfl rfl ?_;rintro _ _ ⟨b1,rfl,rfl⟩;refine AQ (ρ:=sng b1 _) takeZ ?_
 have cg:=rdB b1 36 [.slice pq qs.length kq,.slice pc cs.length kc,.slice none 0 0,.slice pt L.length kt]
 have cg2:=rdC cg 2
 have cg3:=rdC cg 3
 have cgp:=rdQ (xs:=[_,_]) cg
 refine CC ?_;refine Aaj ?_;refine Acn ?_;refine AZ hpc rfl rfl rdZ rfl rfl ?_;rintro _ rfl;refine Acx ?_;refine Aa6 ?_;refine Aan ?_;refine AZ (tlCont0_spec _) rfl rfl rdZ rfl rfl ?_;rintro _ rfl;refine Aa6 ?_;refine Aan ?_;refine Acq ?_;refine Aai ?_;refine Aa ?_;refine Aaj ?_;refine Aan ?_;refine Abk ?_
 refine BF [1,23,24] (X:=Nat) 0 (fun i=>i≤L.length) (fun i=>[(25,int (i:Int)),(4,int (i:Int))]) (fun _=>[emp]) (fun i=>L.length-i) pickZ (Nat.zero_le _) covZ selZ ?_
 rintro i hi
 by_cases hlt:i<L.length
 ·have hx:=List.getElem?_eq_getElem hlt
  have hxm:=List.getElem_mem hlt
  have hkx:=hnum i _ hx
  obtain ⟨bl,ol,rfl,hrd⟩:=hrt i _ hx
  obtain ⟨ok1,ok2⟩:=htk _ hxm
  obtain ⟨lam,hlam,hpp⟩:=hHp _ hxm
  have hck1:=hck lam _ hpp ok1 ok2 (i:Int) (by omega) (by omega)
  generalize L[i]=x at hx hxm hkx hrd ok1 ok2 hck1 hpp
  obtain ⟨⟨kx,q,hops⟩,px,cx⟩:=x
  dsimp only at ok1 ok2 hck1 hkx
  have ek:kx=((i+1:Nat):Int):=by omega
  subst ek
  have hrd:RdN χ bl (ol+i*11) [int ((i+1:Nat):Int),int q.src,int q.dst,int q.size,int q.rdy,int q.dln,int q.pri,.bool q.cus,.slice px hops.length cx,int 1,int 0]:=hrd
  refine Ab2 ?_;refine A4 ?_; rintro _ _ ⟨b,rfl,rfl⟩;refine AW ?_; rintro _ _ ⟨rfl,rfl⟩;refine Aam ?_;refine Acn ?_;refine AK ?_;refine AB ?_
  revert b; intro b6
  refine AQ (ρ:=sng b6 _) takeZ ?_
  have zw:=rdB b6 106 [int ((i+1:Nat):Int),int q.src,int q.dst,int q.size,int q.rdy,int q.dln,int q.pri,.bool q.cus,.slice px hops.length cx,int 1,int 0]
  have z0:=rdC zw 0
  skip
  refine AZ hck1 rfl rfl (fun z hz=>by simp only [List.mem_cons,List.not_mem_nil,or_false] at hz; rcases hz with rfl|rfl|rfl; exact .inl (by simp); exact .inl (by simp); exact .inl (by simp [hlam])) rfl rfl ?_
  rintro _ rfl;refine Acx ?_;refine Aai ?_;refine AA ?_;refine Aae ?_;refine Aaa ?_;refine Aa3 ?_;refine BS ?_
  exact AY (i+1) (by omega) (by omega) covZ selZ
 have hke:i=L.length:=by omega
 subst hke;refine Abl ?_;refine AC ?_;refine Acn ?_;refine Aae ?_;refine AZ hbc rfl rfl rdZ rfl rfl ?_;rintro _ rfl;refine Acx ?_;refine Aai ?_;refine Aas ?_;refine BA hta rfl rfl takesZ rdZ rfl rfl ?_;rintro _ _ ⟨bs,hs,pb,ph,kb,kh,σ,υ,rfl,p1,s1,p2,s2,o1,o2,rfl⟩
 have hTb:TbAt ρ τ σ υ pq pc pb ph kq kc kb kh qs cs bs hs:=⟨hq,hc,hcap,lq,lc,o1.at,by have:=p1.length_eq; have:=hok.nb; omega,o2.at,by have:=p2.length_eq; have:=hok.nh; omega⟩
 have hct:=chkTab_spec hTb
 rw [hok.tab p1 s1 p2 s2] at hct;simp only [List.cons_append,List.nil_append];refine AZ hct rfl rfl rdZ rfl rfl ?_;rintro _ rfl;refine Aaa ?_;exact A3 ⟨rfl,rfl⟩
theorem tlTabs_spec (hq:IntsAt ρ (.slice pq qs.length kq) qs) (hc:CtAt τ (.slice pc cs.length kc) cs) (hcap:cs.length≤kc) (lq:qs.length≤9223372036854775807) (lc:cs.length≤9223372036854775807) (hp:chkPl qs cs=0) {χ:PH} {Γ:List PH} {pt:Option Addr} {kt:Nat} {L:List TkM} (hL:LgAt χ Γ (.slice pt L.length kt) L) (hok:LgOK qs cs (L.map (·.t))) :
  Eng.Spec Tryz.prog (fv 9) [.agg #[.slice pq qs.length kq,.slice pc cs.length kc,.slice none 0 0,.slice pt L.length kt]] (ρ::τ::χ::Γ) [] (fun r H'=>∃ (bs:List Bk) (hs:List Hd) (pb ph:Option Addr) (kb kh:Nat) (σ υ:PH),r=.tuple #[.agg #[.slice pq qs.length kq,.slice pc cs.length kc,.slice pb bs.length kb,.slice ph hs.length kh],int 0]∧bs.Perm (rawB (L.map (·.t)))∧BkW bs∧hs.Perm (rawH cs (L.map (·.t)))∧SortH hs∧OwnS 158 4 (.slice pb bs.length kb) bs.length (bs.flatMap encB) σ∧OwnS 246 5 (.slice ph hs.length kh) hs.length (hs.flatMap encH) υ∧H'=[σ,υ]):=by
 have hll:L.length≤4:=by have:=hok.len; rwa [List.length_map] at this
 have htk:TksOK qs cs L:=fun x hx=>hok.tk _ (List.mem_map.2 ⟨x,hx,rfl⟩)
 have hta:=tlTables_spec hq hc hcap lq lc hp hL (by omega) htk
 have hck:=tlCheck_spec hq hc hcap lq lc hp hL hok
 refine spec_in (cap:=[]) Tryz.func9 rfl rfl Tryz.ntmps9 rfl envZ (fun N β=>?_)
 refine Aa ?_;refine BH (BI rfl) rfl rfl rfl ?_;rintro _ _ ⟨b1,rfl,rfl⟩;refine BH (CH rfl) rfl rfl rfl ?_;rintro _ _ ⟨b2,rfl,rfl⟩;refine AQ (ρ:=sng b1 _) takeZ ?_
 have cg:=rdB b1 36 [.slice pq qs.length kq,.slice pc cs.length kc,.slice none 0 0,.slice pt L.length kt]
 refine Adg ?_;refine AZ hck rfl rfl rdZ rfl rfl ?_;rintro _ rfl;refine BO ?_;refine Aai ?_;refine Aas ?_;refine BA hta rfl rfl takesZ rdZ rfl rfl ?_;rintro _ _ ⟨bs,hs,pb,ph,kb,kh,σ,υ,rfl,p1,s1,p2,s2,o1,o2,rfl⟩;simp only [List.cons_append,List.nil_append];refine AW ?_; rintro _ _ ⟨rfl,rfl⟩;refine Aaa ?_;exact AT (resSE (b1:=b2) (T:=42) (v1:=[.slice pq qs.length kq,.slice pc cs.length kc,.slice pb bs.length kb,.slice ph hs.length kh]) rfl rfl rfl rfl rfl (cells_own memZ)) rsubZ selZ ⟨bs,hs,pb,ph,kb,kh,σ,υ,rfl,p1,s1,p2,s2,o1,o2,rfl⟩
theorem tlNew_spec (hq:IntsAt ρ (.slice pq qs.length kq) qs) (hc:CtAt τ (.slice pc cs.length kc) cs) (hcap:cs.length≤kc) (lq:qs.length≤9223372036854775807) (lc:cs.length≤9223372036854775807) :
  Ans Tryz.prog (fv 8) [.agg #[.slice pq qs.length kq,.slice pc cs.length kc]] [ρ,τ] (fun r=>(chkPl qs cs=0∧r=.tuple #[.agg #[.slice pq qs.length kq,.slice pc cs.length kc,.slice none 0 0,.slice none 0 0],int 0])∨∃ e:Int,e≠0∧r=.tuple #[.agg #[.slice none 0 0,.slice none 0 0,.slice none 0 0,.slice none 0 0],int e]):=by
 have hpc:=planCheck_spec ρ τ pq pc kq kc qs cs hq hc hcap lq lc
 refine spec_in (cap:=[]) Tryz.func8 rfl rfl Tryz.ntmps8 rfl envZ (fun N β=>?_)
 refine Aa ?_;refine BH (BI rfl) rfl rfl rfl ?_;rintro _ _ ⟨b1,rfl,rfl⟩;refine BH (CH rfl) rfl rfl rfl ?_;rintro _ _ ⟨b2,rfl,rfl⟩;refine AQ (ρ:=sng b1 _) takeZ ?_
 have cg:=rdB b1 25 [.slice pq qs.length kq,.slice pc cs.length kc]
 refine Adg ?_;refine AZ hpc rfl rfl rdZ rfl rfl ?_;rintro _ rfl
 by_cases h0:chkPl qs cs=0
 ·rw [h0]
  refine Acx ?_;refine Aai ?_;refine Aas ?_;refine CK (CT (out:=[.slice pq qs.length kq,.slice pc cs.length kc,.slice none 0 0,.slice none 0 0]) rfl rfl rfl rfl rfl) rfl rfl rfl ?_;refine AW ?_; rintro _ _ ⟨rfl,rfl⟩;refine Aaa ?_;exact AT (resSE (b1:=b2) (T:=36) (v1:=[.slice pq qs.length kq,.slice pc cs.length kc,.slice none 0 0,.slice none 0 0]) rfl rfl rfl rfl rfl (cells_own memZ)) rsubZ selZ ⟨rfl,.inl ⟨rfl,rfl⟩⟩
 ·generalize chkPl qs cs=e at h0
  refine Abo ?_;refine C3 ?_;refine Acf ?_;refine CK (CT (out:=[.slice none 0 0,.slice none 0 0,.slice none 0 0,.slice none 0 0]) rfl rfl rfl rfl rfl) rfl rfl rfl ?_;refine AB ?_;refine AW ?_; rintro _ _ ⟨rfl,rfl⟩;refine Aaa ?_;exact AT (resSE (b1:=b2) (T:=36) (v1:=[.slice none 0 0,.slice none 0 0,.slice none 0 0,.slice none 0 0]) rfl rfl rfl rfl rfl (cells_own memZ)) rsubZ selZ ⟨rfl,.inr ⟨e,h0,rfl⟩⟩
end
end Go.Proofs.YtglifndogffmkaaGreat
namespace Go.Proofs.YtglifndogffmkaaGreat
open Go.Eng Go.Step
set_option maxRecDepth 100000
set_option maxHeartbeats 64000000
section
variable {ρ τ σ υ:PH} {pq pc pb ph:Option Addr} {kq kc kb kh:Nat} {qs:List Int} {cs:List Ct} {bs:List Bk} {hs:List Hd} {q:Rq}
theorem srchArr_spec (hT:TbAt ρ τ σ υ pq pc pb ph kq kc kb kh qs cs bs hs) (hK:TOK qs cs bs hs q) :
  Ans Tryz.prog (fv 10) [.agg #[.slice pq qs.length kq,.slice pc cs.length kc,.slice pb bs.length kb,.slice ph hs.length kh],.agg #[int q.src,int q.dst,int q.size,int q.rdy,int q.dln,int q.pri,.bool q.cus]] [ρ,τ,σ,υ] (fun r=>∃ L,LabR (grOf qs cs bs hs q) L∧((∃ a,arrR (grOf qs cs bs hs q) L=some a∧r=.tuple #[int a,int 0])∨(arrR (grOf qs cs bs hs q) L=none∧r=.tuple #[int 0,int 18]))):=by
 have hb:=build_spec hT hK
 have hg:=grOf_ok hK
 generalize grOf qs cs bs hs q=G at hb hg
 refine spec_in (cap:=[]) Tryz.func10 rfl rfl Tryz.ntmps10 rfl envZ (fun N β=>?_)
 refine Aa ?_;refine BH (BI rfl) rfl rfl rfl ?_;rintro _ _ ⟨b2,rfl,rfl⟩;refine BH (BI rfl) rfl rfl rfl ?_;rintro _ _ ⟨b3,rfl,rfl⟩;refine AQ (ρ:=sng b2 _) takeZ ?_;refine AQ (ρ:=sng b3 _) takeZ ?_
 have ct:=rdB b2 42 [.slice pq qs.length kq,.slice pc cs.length kc,.slice pb bs.length kb,.slice ph hs.length kh]
 have cr:=rdB b3 28 [int q.src,int q.dst,int q.size,int q.rdy,int q.dln,int q.pri,.bool q.cus]
 refine Ab ?_;refine Ac ?_;refine CJ hb rfl rfl rdZ rfl rfl ?_;rintro _ γ ⟨A,rfl,hG⟩;refine AQ (ρ:=γ) takeZ ?_
 have hla:=labels_spec hG hg
 refine Adn ?_;refine Ade ?_;refine Aai ?_;refine Aag ?_;refine CJ hla rfl rfl rdZ rfl rfl ?_;rintro v lam ⟨L,hL,hO⟩;refine AQ (ρ:=lam) takeZ ?_
 have hSL:SlE encL 4 lam v L:=hO.at
 have hLl:=hL.len
 have har:=grArr_spec hG hg v L hSL (by omega) (fun x hx=>by have:=fine_bd hg (rch_fine hg (hL.rch x hx)); omega)
 skip
 refine AZ har rfl rfl rdZ rfl rfl ?_;rintro _ rfl
 cases ha:arrR G L with
 | none =>
  simp only [Option.getD_none,Option.isSome_none];refine Adn ?_;refine Ade ?_;refine Ac5 ?_;exact AT (res2 rfl rfl rfl) rsubZ selZ ⟨rfl,L,hL,.inr ⟨ha,rfl⟩⟩
 | some a =>
  simp only [Option.getD_some,Option.isSome_some];refine Adn ?_;refine Ade ?_;refine Aai ?_;refine Aab ?_;refine Ab ?_;exact AT (res2 rfl rfl rfl) rsubZ selZ ⟨rfl,L,hL,.inl ⟨a,ha,rfl⟩⟩
theorem lab_spec (hT:TbAt ρ τ σ υ pq pc pb ph kq kc kb kh qs cs bs hs) (hK:TOK qs cs bs hs q) :
  Makes Tryz.prog (fv 93) [.agg #[.slice pq qs.length kq,.slice pc cs.length kc,.slice pb bs.length kb,.slice ph hs.length kh],.agg #[int q.src,int q.dst,int q.size,int q.rdy,int q.dln,int q.pri,.bool q.cus]] [ρ,τ,σ,υ] (fun r χ=>∃ L u,LabR (grOf qs cs bs hs q) L∧r=.tuple #[u,int 0]∧OwnS 175 4 u L.length (L.flatMap encL) χ):=by
 have hb:=build_spec hT hK
 have hg:=grOf_ok hK
 generalize grOf qs cs bs hs q=G at hb hg
 refine spec_in (cap:=[]) Tryz.func93 rfl rfl Tryz.ntmps93 rfl envZ (fun N β=>?_)
 refine Aa ?_;refine BH (BI rfl) rfl rfl rfl ?_;rintro _ _ ⟨b2,rfl,rfl⟩;refine BH (BI rfl) rfl rfl rfl ?_;rintro _ _ ⟨b3,rfl,rfl⟩;refine AQ (ρ:=sng b2 _) takeZ ?_;refine AQ (ρ:=sng b3 _) takeZ ?_
 have ct:=rdB b2 42 [.slice pq qs.length kq,.slice pc cs.length kc,.slice pb bs.length kb,.slice ph hs.length kh]
 have cr:=rdB b3 28 [int q.src,int q.dst,int q.size,int q.rdy,int q.dln,int q.pri,.bool q.cus]
 refine Ab ?_;refine Ac ?_;refine CJ hb rfl rfl rdZ rfl rfl ?_;rintro _ γ ⟨A,rfl,hG⟩;refine AQ (ρ:=γ) takeZ ?_
 have hla:=labels_spec hG hg
 refine Adn ?_;refine Ade ?_;refine Aai ?_;refine Aab ?_;refine CJ hla rfl rfl rdZ rfl rfl ?_;rintro v lam ⟨L,hL,hO⟩;refine Ab ?_;exact AT (res2 rfl rfl rfl) rsubZ selZ ⟨lam,⟨L,v,hL,rfl,hO⟩,rfl⟩
end
end Go.Proofs.YtglifndogffmkaaGreat
namespace Go.Step
inductive Fro (G:Gr) (L:List Lb):Lb→List (Lb × Hp)→Prop
  | nil {y:Lb}:y.n=G.q.dst→Fro G L y []
  | cons {x:Lb} {m:Lb × Hp} {w:List (Lb × Hp)}:x∈L→m∈mvs G x→Fro G L m.1 w→Fro G L x ((x,m.2)::w)
theorem Fro.times {G:Gr} (hg:GOK G) {L:List Lb} {y:Lb} {w:List (Lb × Hp)} (h:Fro G L y w):(∀ p∈w,y.a≤p.1.a∧p.1∈L)∧w.Pairwise (fun p q=>p.1.a<q.1.a):=by
  induction h with
  | nil _=>exact ⟨fun p h=>(by cases h),.nil⟩
  | @cons x m w hx hm hw ih =>
    obtain ⟨i1,i2⟩:=ih
    have hla:=(mvs_later hg hm).1
    refine ⟨fun p hp=>?_,List.pairwise_cons.2 ⟨fun p hp=>?_,i2⟩⟩
    · rcases List.mem_cons.1 hp with rfl|hp
      · exact ⟨Int.le_refl _,hx⟩
      · have:=i1 p hp; exact ⟨by omega,this.2⟩
    · have:=i1 p hp; dsimp only; omega
section
variable {qs:List Int} {cs:List Ct} {bs:List Bk} {hs:List Hd} {q:Rq}
theorem dur_at (qs:List Int) (bs:List Bk) (hs:List Hd) (q:Rq) {k:Nat} {c:Ct} (h:cs[k]?=some c):(grOf qs cs bs hs q).dur.getD k 0=durC c q.size:=by
  show (cs.map (fun c=>durC c q.size)).getD k 0=_
  rw [List.getD_eq_getElem?_getD,List.getElem?_map,h]; rfl
theorem mv_hop (hK:TOK qs cs bs hs q) {x:Lb} {m:Lb × Hp} (h:m∈mvs (grOf qs cs bs hs q) x) (hd:x.n≠q.dst):∃ (k:Nat) (c:Ct),HopOK cs q x.n x.a m.2 k c∧c.t=m.1.n∧m.2.a=m.1.a∧m.1.f≤m.2.b∧leaveC cs q m.2≤x.t∧m.2.a≤q.dln∧(∀ y∈bs,y.c=m.2.c→y.b≤m.2.b∨m.2.e≤y.a)∧m.2.b<m.2.e∧m.2.e<m.2.a:=by
  have hg:=grOf_ok hK
  obtain ⟨k,c,ok⟩:=mv_ok hg h
  obtain ⟨hp,hb,hh⟩:=chkT_ok hK.t
  have hct:cs[k]?=some c:=ok.ct
  have hki:=(List.getElem?_eq_some_iff.1 hct).1
  obtain ⟨p,hpm,p1,p2⟩:=ok.gap
  rw [List.getD_eq_getElem?_getD,gaps_at qs cs bs hs q hki,Option.getD_some] at hpm
  obtain ⟨n1,n2,n3⟩:=freeC_ok (chkB_ok hb).2 hct
  have hin:=n2 p hpm
  have he:=ok.en
  rw [dur_at qs bs hs q hct] at he
  have hck:=chkCt_g (chkPl_ct hp (List.mem_of_getElem? hct)).1
  have hhc:=ok.hc
  have hlv:=ok.lv
  have hag:=ok.ag
  refine ⟨k,c,⟨hct,hhc,ok.fr,hd,ok.ta,by omega,by omega,he,hag⟩,ok.to,ok.ar,ok.tf,?_,ok.dl,fun y hy hyc=>?_,ok.be,by omega⟩
  · unfold leaveC leaveR at *
    rw [hhc,ctAt_of hct];exact hlv
  · obtain ⟨_,c',_,_,hly,_⟩:=bkE_ok (chkB_ok hb).2 y hy
    have hbe:=ok.be
    by_cases c1:y.b≤m.2.b∨m.2.e≤y.a
    · exact c1
    · exfalso
      have hm:memI (freeC cs bs k) (max y.a m.2.b)=true:=memI_iff.2 ⟨p,hpm,by omega,by omega⟩
      rw [n3,Bool.and_eq_true] at hm
      have hbk:bookedB bs k (max y.a m.2.b)=true:=bookedB_iff.2 ⟨y,hy,by omega,by omega,by omega⟩
      rw [hbk] at hm
      exact absurd hm.2 (by simp)
theorem lab_dst (hK:TOK qs cs bs hs q) {L:List Lb} (hL:LabR (grOf qs cs bs hs q) L) {x:Lb} (hx:x∈L):x.n≠q.dst:=(rch_fine (grOf_ok hK) (hL.rch x hx)).1
theorem fro_chain (hK:TOK qs cs bs hs q) {L:List Lb} (hL:LabR (grOf qs cs bs hs q) L) {y:Lb} {w:List (Lb × Hp)} (h:Fro (grOf qs cs bs hs q) L y w):Chain cs q y.n y.a (w.map (·.2))∧(∀ p∈w,p.2.a≤q.dln)∧(w.map (·.2)).Pairwise (fun p q=>p.e≤q.b)∧(∀ p∈w,y.a≤p.2.b∧∀ b∈bs,b.c=p.2.c→b.b≤p.2.b∨p.2.e≤b.a):=by
  induction h with
  | nil h=>exact ⟨h,fun p h=>(by cases h),.nil,fun p h=>(by cases h)⟩
  | @cons x m w hx hm hw ih =>
    obtain ⟨i1,i2,i3,i4⟩:=ih
    obtain ⟨k,c,h1,h2,h3,h4,h5,h6,h7,h8,h9⟩:=mv_hop hK hm (lab_dst hK hL hx)
    have hcc:ctAt cs m.2.c=c:=by rw [h1.2.1]; exact ctAt_of h1.1
    refine ⟨⟨⟨k,c,h1⟩,?_⟩,fun p hp=>?_,?_,fun p hp=>?_⟩
    · rw [hcc,h2,h3]; exact i1
    · rcases List.mem_cons.1 hp with rfl|hp
      · exact h6
      · exact i2 p hp
    · rw [List.map_cons]
      refine List.pairwise_cons.2 ⟨fun z hz=>?_,i3⟩
      obtain ⟨p,hp,rfl⟩:=List.mem_map.1 hz
      have:=(i4 p hp).1
      dsimp only; omega
    · have hta:=h1.2.2.2.2.1
      rcases List.mem_cons.1 hp with rfl|hp
      · exact ⟨hta,h7⟩
      · have:=i4 p hp
        exact ⟨by omega,this.2⟩
theorem room_of (qs:List Int) (cs:List Ct) (bs:List Bk) (hs:List Hd) (q:Rq) {n:Nat} (hn:n<qs.length):(grOf qs cs bs hs q).rooms.getD n []=freeP (qs.getD n 0) q.size (lvH hs n):=by
  rw [List.getD_eq_getElem?_getD]
  show (((List.range qs.length).map (fun n:Nat=>freeP (qs.getD n 0) q.size (lvH hs n)))[n]?).getD []=_
  rw [List.getElem?_map,List.getElem?_range hn]; rfl
theorem lab_room (hK:TOK qs cs bs hs q) {x:Lb} (hF:Fine (grOf qs cs bs hs q) x) {t:Int} (h1:x.f≤t) (h2:t<x.t):stored hs x.n t+q.size≤qs.getD x.n.toNat 0:=by
  have hg:=grOf_ok hK
  have hbd:=fine_bd hg hF
  obtain ⟨_,f1,f2,f3,f4,f5⟩:=hF
  have hrl:(grOf qs cs bs hs q).rooms.length=qs.length:=by simp [grOf]
  have hlt:x.n.toNat<qs.length:=by omega
  rw [room_of qs cs bs hs q hlt,show ((x.n.toNat:Nat):Int)=x.n by omega] at f3
  obtain ⟨_,_,hh⟩:=chkT_ok hK.t
  obtain ⟨l1,k1⟩:=chkH_ok hh
  exact ((free_holds k1 (by omega)).2 t (by omega) (by omega)).1 ⟨_,f3,h1,h2⟩
theorem rooms_differ {G:Gr} (hg:GOK G) {x y:Lb} (hx:Fine G x) (hy:Fine G y) (hn:x.n=y.n) {t:Int} (h1:x.f≤t∧t<x.t) (h2:y.f≤t∧t<y.t):sameL x y=true:=by
  obtain ⟨_,x1,x2,x3,x4,x5⟩:=hx
  obtain ⟨_,y1,y2,y3,y4,y5⟩:=hy
  rw [hn] at x3
  have hlt:y.n.toNat<G.rooms.length:=by omega
  have hr:=List.getElem?_eq_getElem hlt
  rw [List.getD_eq_getElem?_getD,hr,Option.getD_some] at x3 y3
  have hR:=(hg.room _ (List.mem_of_getElem? hr)).2.1
  obtain ⟨i,hi,ei⟩:=List.getElem_of_mem x3
  obtain ⟨j,hj,ej⟩:=List.getElem_of_mem y3
  rcases Nat.lt_trichotomy i j with c|c|c
  · have:=List.pairwise_iff_getElem.1 hR i j hi hj c
    rw [ei,ej] at this; dsimp only at this; omega
  · subst c
    rw [ei] at ej
    injection ej with e1 e2
    exact sameL_iff.2 ⟨hn,e1⟩
  · have:=List.pairwise_iff_getElem.1 hR j i hj hi c
    rw [ei,ej] at this; dsimp only at this; omega
theorem fro_stored (hK:TOK qs cs bs hs q) {L:List Lb} (hL:LabR (grOf qs cs bs hs q) L) (k n t:Int) {y:Lb} {w:List (Lb × Hp)} (h:Fro (grOf qs cs bs hs q) L y w):∀ f,y.f≤f →
    stored (holdsW cs q k y.n f (w.map (·.2))) n t=0∨(stored (holdsW cs q k y.n f (w.map (·.2))) n t=q.size∧∃ p∈w,p.1.n=n∧p.1.f≤t∧t<p.1.t):=by
  induction h with
  | nil _=>exact fun f _=>.inl rfl
  | @cons x m w hx hm hw ih =>
    intro f hf
    have hg:=grOf_ok hK
    obtain ⟨k1,c,h1,h2,h3,h4,h5,h6,h7,h8,h9⟩:=mv_hop hK hm (lab_dst hK hL hx)
    have hcc:ctAt cs m.2.c=c:=by rw [h1.2.1]; exact ctAt_of h1.1
    have i1:=ih m.2.b h4
    simp only [List.map_cons,holdsW,stored];rw [hcc,h2]
    by_cases c1:x.n=n∧f≤t∧t<leaveC cs q m.2
    · rw [if_pos c1]
      rcases i1 with i1|⟨i1,p,hp,e1,e2,e3⟩
      · exact .inr ⟨by rw [i1]; omega,(x,m.2),by simp,c1.1,by dsimp only; omega,by dsimp only; omega⟩
      · exfalso
        have hla:=(mvs_later hg hm).1
        have ht:=(hw.times hg).1 p hp
        have hs:=rooms_differ hg (rch_fine hg (hL.rch x hx)) (rch_fine hg (hL.rch _ ht.2)) (by rw [c1.1,e1]) (t:=t) ⟨by omega,by omega⟩ ⟨e2,e3⟩
        have:=lab_one hL.dis ht.2 hx hs
        rw [this] at hla;omega
    · rw [if_neg c1,Int.zero_add]
      rcases i1 with i1|⟨i1,p,hp,e⟩
      · exact .inl i1
      · exact .inr ⟨i1,p,List.mem_cons_of_mem _ hp,e⟩
theorem holdsW_lenP (cs:List Ct) (q:Rq) (k:Int):∀ (l:List Hp) (n f:Int),(holdsW cs q k n f l).length=l.length
  | [],_,_=>rfl
  | h::l,n,f=>by simp [holdsW,holdsW_lenP cs q k l]
theorem rawB_len:∀ {T:List Tk},(∀ x∈T,x.hops.length≤1000)→(rawB T).length≤1000*T.length
  | [],_=>Nat.zero_le _
  | x::T,h=>by
    have h1:=rawB_len (T:=T) (fun y hy=>h y (by simp [hy]))
    have h2:=h x (by simp)
    have e:rawB (x::T)=bksT x ++ rawB T:=by simp [rawB]
    rw [e,List.length_append,List.length_cons]
    have:(bksT x).length=x.hops.length:=List.length_map _
    omega
theorem rawH_len (cs:List Ct):∀ {T:List Tk},(∀ x∈T,x.hops.length≤1000)→(rawH cs T).length≤1000*T.length
  | [],_=>Nat.zero_le _
  | x::T,h=>by
    have h1:=rawH_len cs (T:=T) (fun y hy=>h y (by simp [hy]))
    have h2:=h x (by simp)
    have e:rawH cs (x::T)=hdsT cs x ++ rawH cs T:=by simp [rawH]
    rw [e,List.length_append,List.length_cons]
    have:(hdsT cs x).length=x.hops.length:=holdsW_lenP ..
    omega
structure RtFnd (qs:List Int) (cs:List Ct) (bs:List Bk) (hs:List Hd) (q:Rq) (l:List Hp):Prop where
  ex:∃ L y w,LabR (grOf qs cs bs hs q) L∧y∈begs (grOf qs cs bs hs q)∧Fro (grOf qs cs bs hs q) L y w∧l=w.map (·.2)
  len:l.length≤1000
theorem beg_at {G:Gr} {y:Lb} (h:y∈begs G):y.n=G.q.src∧y.a=G.q.rdy∧y.f≤G.q.rdy:=by
  unfold begs at h;rw [List.mem_map] at h
  obtain ⟨p,hp,rfl⟩:=h
  rw [List.mem_filter,Bool.and_eq_true,decide_eq_true_eq,decide_eq_true_eq] at hp;exact ⟨rfl,rfl,hp.2.1⟩
theorem RtFnd.rou (hK:TOK qs cs bs hs q) {l:List Hp} (h:RtFnd qs cs bs hs q l):RouOK cs q l:=by
  obtain ⟨⟨L,y,w,hL,hy,hw,rfl⟩,hlen⟩:=h
  obtain ⟨e1,e2,e3⟩:=beg_at hy
  obtain ⟨i1,i2,i3,i4⟩:=fro_chain hK hL hw
  rw [e1,e2] at i1
  refine ⟨fun hn=>?_,hlen,i1,fun h hh=>?_⟩
  · rw [hn] at i1
    exact hK.q.2.1 i1
  · obtain ⟨p,hp,rfl⟩:=List.mem_map.1 (List.mem_of_getLast? hh)
    exact i2 p hp
theorem lg_step {T:List Tk} (h:LgOK qs cs T) (hT:T.length≤3) (hK:TOK qs cs bs hs q) (pb:bs.Perm (rawB T)) (ph:hs.Perm (rawH cs T)) {l:List Hp} (hF:RtFnd qs cs bs hs q l)
    (h1:(rawB (T ++ [⟨(T.length:Int)+1,q,l⟩])).length≤512) (h2:(rawH cs (T ++ [⟨(T.length:Int)+1,q,l⟩])).length≤512):LgOK qs cs (T ++ [⟨(T.length:Int)+1,q,l⟩]):=by
  have hr:=hF.rou hK
  obtain ⟨⟨L,y,w,hL,hy,hw,rfl⟩,hlen⟩:=hF
  obtain ⟨e1,e2,e3⟩:=beg_at hy
  obtain ⟨i1,i2,i3,i4⟩:=fro_chain hK hL hw
  have hg:=grOf_ok hK
  have eB:rawB (T ++ [⟨(T.length:Int)+1,q,w.map (·.2)⟩])=rawB T ++ (w.map (·.2)).map (bkOf ((T.length:Int)+1)):=by simp [rawB,bksT]
  have eH:rawH cs (T ++ [⟨(T.length:Int)+1,q,w.map (·.2)⟩])=rawH cs T ++ holdsW cs q ((T.length:Int)+1) q.src q.rdy (w.map (·.2)):=by simp [rawH,hdsT]
  have tk:∀ x∈T ++ [⟨(T.length:Int)+1,q,w.map (·.2)⟩],okRq qs.length x.q∧RouOK cs x.q x.hops:=fun x hx=>by
    rcases List.mem_append.1 hx with hx|hx
    · exact h.tk x hx
    · rw [List.mem_singleton] at hx; subst hx; exact ⟨hK.q,hr⟩
  refine ⟨h.pl,tk,fun i x hx=>?_,by rw [List.length_append,List.length_singleton]; omega,h1,h2,?_,?_⟩
  · rw [List.getElem?_append] at hx
    split at hx
    · exact h.num i x hx
    · rename_i hc
      obtain ⟨hi,hxx⟩:=List.getElem?_eq_some_iff.1 hx
      rw [List.length_singleton] at hi
      have:i=T.length:=by omega
      subst this
      simp at hxx
      rw [← hxx]
  · rw [eB,List.pairwise_append]
    refine ⟨h.ap,?_,fun a ha b hb=>?_⟩
    · rw [List.pairwise_map]
      exact i3.imp (fun {x y} hxy=>fun _=>.inl hxy)
    · rw [List.map_map,List.mem_map] at hb
      obtain ⟨p,hp,rfl⟩:=hb
      exact fun e=>(i4 p hp).2 a (pb.mem_iff.2 ha) e
  · rw [eH]
    have hzn:∀ z∈holdsW cs q ((T.length:Int)+1) q.src q.rdy (w.map (·.2)),okHd qs.length z:=by
      refine chain_hds h.pl ⟨hK.q.2.2.1.1,hK.q.2.2.1.2.1⟩ (by omega) (t:=q.rdy) ?_ ⟨hK.q.2.2.1.2.2.1,Int.le_refl _⟩
      rw [e1,e2] at i1; exact i1
    have hz1:∀ x∈rawH cs T,0≤x.s:=fun x hx=>by have:=(h.okH x hx).2.2.1; omega
    rw [fitB_iff]
    intro z hz
    rw [stored_append]
    have hzok:okHd qs.length z:=by
      rcases List.mem_append.1 hz with hz|hz
      · exact h.okH z hz
      · exact hzn z hz
    have hQ:0≤qs.getD z.n.toNat 0:=by
      have h0:=firstE_zero (chkPl_ok h.pl).2.1 z.n.toNat (by have:=hzok.1; omega)
      unfold quoE at h0
      rw [List.getElem?_eq_getElem (by have:=hzok.1; omega)] at h0
      rw [List.getD_eq_getElem?_getD,List.getElem?_eq_getElem (by have:=hzok.1; omega),Option.getD_some]
      simp only at h0
      split at h0 <;> omega
    have h3:=fro_stored hK hL ((T.length:Int)+1) z.n z.a hw q.rdy e3
    rw [e1] at h3
    change _∨_ at h3
    rcases h3 with h3|⟨h3,p,hp,p1,p2,p3⟩
    · have h4:=fit_any hz1 h.fit hQ (t:=z.a)
      have h3:stored (holdsW cs q ((T.length:Int)+1) q.src q.rdy (w.map (·.2))) z.n z.a=0:=h3
      omega
    · have h4:=lab_room hK (rch_fine hg (hL.rch _ ((hw.times hg).1 p hp).2)) p2 p3
      rw [p1,stored_perm ph] at h4
      have h3:stored (holdsW cs q ((T.length:Int)+1) q.src q.rdy (w.map (·.2))) z.n z.a=q.size:=h3
      omega
theorem lg_load {T X:List Tk} {bs':List Bk} {hs':List Hd} (h':LgOK qs cs (T ++ X)) (h:LgOK qs cs T) (pb:bs.Perm (rawB T)) (sb:BkW bs) (ph:hs.Perm (rawH cs T)) (sh:SortH hs)
    (pb':bs'.Perm (rawB (T ++ X))) (sb':BkW bs') (ph':hs'.Perm (rawH cs (T ++ X))) (sh':SortH hs') (q:Rq):Load (grOf qs cs bs hs q) (grOf qs cs bs' hs' q):=by
  refine load_of (h.tab pb sb ph sh) (h'.tab pb' sb' ph' sh') q (fun i t hb=>?_) (fun n t=>?_)
  · obtain ⟨y,hy,hyy⟩:=bookedB_iff.1 hb
    refine bookedB_iff.2 ⟨y,pb'.mem_iff.2 ?_,hyy⟩;unfold rawB;rw [List.flatMap_append];exact List.mem_append.2 (.inl (pb.mem_iff.1 hy))
  · rw [stored_perm ph,stored_perm ph']
    have e:rawH cs (T ++ X)=rawH cs T ++ rawH cs X:=by unfold rawH; rw [List.flatMap_append]
    rw [e,stored_append]
    have:=stored_ge0 (l:=rawH cs X) (fun x hx=>by have:=(h'.okH x (by rw [e]; simp [hx])).2.2.1; omega) n t
    omega
end
end Go.Step
namespace Go.Step
def dstL (G:Gr) (a:Int):Lb:=⟨G.q.dst,0,1099511627776,a⟩
theorem mv_dst {G:Gr} {x:Lb} {m:Lb × Hp} (h:m∈mvs G x) (hn:m.1.n=G.q.dst):m.1=dstL G m.1.a:=by
  obtain ⟨k,c,r,hc,hf,hr,hh,he,h1,h2,h3⟩:=mem_mvs h
  rw [he] at hn ⊢
  dsimp only at hn
  unfold roomsR at hr;rw [if_pos hn] at hr;simp only [List.mem_singleton] at hr;subst hr;unfold dstL
  dsimp only
  rw [hn]
def leadB (to:Lb) (m:Lb × Hp):Bool:=sameL m.1 to && decide (m.1.a=to.a)
theorem leadB_iff {to:Lb} {m:Lb × Hp}:leadB to m=true↔sameL m.1 to=true∧m.1.a=to.a:=by unfold leadB; simp
theorem rch_rdy {G:Gr} (hg:GOK G) {x:Lb} (h:RchL G x):G.q.rdy≤x.a:=by
  induction h with
  | beg h=>have:=(beg_at h).2.1; omega
  | mv _ hm _ ih=>have:=(mvs_later hg hm).1; omega
theorem rch_beg {G:Gr} (hg:GOK G) {x:Lb} (h:RchL G x) (ha:x.a=G.q.rdy):x∈begs G:=by
  cases h with
  | beg h=>exact h
  | mv hr hm _=>have:=(mvs_later hg hm).1; have:=rch_rdy hg hr; omega
def OnW (G:Gr) (L:List Lb) (to:Lb):Prop:=to∈L∨to=dstL G to.a
theorem lead_eq {G:Gr} (hg:GOK G) {L:List Lb} (hL:LabR G L) {to x:Lb} {m:Lb × Hp} (ht:OnW G L to) (hx:x∈L) (hm:m∈mvs G x) (hl:leadB to m=true):m.1=to:=by
  obtain ⟨h1,h2⟩:=leadB_iff.1 hl
  obtain ⟨e1,e2⟩:=sameL_iff.1 h1
  rcases ht with ht|ht
  · have hf:=rch_fine hg (hL.rch to ht)
    have hf2:=mvs_fine hg hm (by rw [e1]; exact hf.1)
    have e3:=fine_to hg hf hf2 h1
    generalize m.1=u at *
    obtain ⟨n,f,t,a⟩:=u
    obtain ⟨n',f',t',a'⟩:=to
    dsimp only at *
    subst e1 e2 e3 h2
    rfl
  · have e:m.1.n=G.q.dst:=by rw [e1,ht]; rfl
    rw [mv_dst hm e,ht,h2]
theorem lead_ex {G:Gr} (hg:GOK G) (ha:∀ i,(G.gaps.getD i []).Pairwise (fun x y=>x.2<y.1)) {L:List Lb} (hL:LabR G L) {to:Lb} (ht:to∈L) (hb:¬ (to.n=G.q.src∧to.a=G.q.rdy)):∃ x∈L,∃ m∈mvs G x,leadB to m=true:=by
  rcases bef_some hg ha hL ht with h|⟨x,hx,m,hm,e⟩
  · obtain ⟨e1,e2,_⟩:=beg_at h
    exact absurd ⟨e1,e2⟩ hb
  · exact ⟨x,hx,m,hm,leadB_iff.2 ⟨by rw [e]; exact sameL_refl to,by rw [e]⟩⟩
theorem lead_dst {G:Gr} {L:List Lb} {a:Int} (h:arrR G L=some a):∃ x∈L,∃ m∈mvs G x,leadB (dstL G a) m=true:=by
  obtain ⟨x,hx,m,hm,hn,rfl⟩:=arr_some h
  refine ⟨x,hx,m,hm,leadB_iff.2 ⟨sameL_iff.2 ⟨hn,?_⟩,rfl⟩⟩;rw [mv_dst hm hn]; rfl
theorem fro_back {G:Gr} (hg:GOK G) {L:List Lb} (hL:LabR G L) {to x:Lb} {m:Lb × Hp} {w:List (Lb × Hp)} (ht:OnW G L to) (hx:x∈L) (hm:m∈mvs G x) (hl:leadB to m=true) (hw:Fro G L to w):Fro G L x ((x,m.2)::w)∧x.a<to.a:=by
  have e:=lead_eq hg hL ht hx hm hl
  have:=(mvs_later hg hm).1
  rw [e] at this
  exact ⟨.cons hx hm (by rw [e]; exact hw),this⟩
end Go.Step
namespace Go.Eng
variable {L:Env} {R H:List PH}
theorem resSSC {fn:Func} {N:Bs} {M:Nat} {P:Program} {t u s b1 b2 b3:Nat} {T U V:TypeId} {v1 v2:List Value} {v3:Value} (hr:fn.results = #[.cell t T,.cell u U,.cell s V]) (ht:look L t=some (.pointer (some ⟨b1,0,none⟩))) (hu:look L u=some (.pointer (some ⟨b2,0,none⟩))) (hs:look L s=some (.pointer (some ⟨b3,0,none⟩)))
    (a1:aggP P T=some true) (n1:szP P T=some v1.length) (a2:aggP P U=some true) (n2:szP P U=some v2.length) (a3:aggP P V=some false) (c1:Cells N R H b1 0 v1) (c2:Cells N R H b2 0 v2) (c3:Cell N R H b3 0 v3) :
    ∀ a w,Frm M L a→Sat N R H w→(results fn a.tmps).run P w=.ok (.tuple #[.agg v1.toArray,.agg v2.toArray,v3]) w:=by
  intro a w hf hs'
  have e1:a.tmps[t]?.getD undef=.pointer (some ⟨b1,0,none⟩):=by simpa using hf.get t _ ht
  have e2:a.tmps[u]?.getD undef=.pointer (some ⟨b2,0,none⟩):=by simpa using hf.get u _ hu
  have e3:a.tmps[s]?.getD undef=.pointer (some ⟨b3,0,none⟩):=by simpa using hf.get s _ hs
  have l1:=run_loadCells_list (P:=P) (w:=w) ⟨b1,0,none⟩ v1 (fun j v hv=>by rw [Addr.add_lit]; exact c1 w hs' j v hv)
  have l2:=run_loadCells_list (P:=P) (w:=w) ⟨b2,0,none⟩ v2 (fun j v hv=>by rw [Addr.add_lit]; exact c2 w hs' j v hv)
  simp [results,hr,e1,e2,e3,loadVar,run_isAgg a1,run_isAgg a2,run_isAgg a3,run_sizeOf n1,run_sizeOf n2,l1,l2,c3 w hs',asAddr]
theorem resSSE {fn:Func} {N:Bs} {M:Nat} {P:Program} {t u s b1 b2:Nat} {T U:TypeId} {v1 v2:List Value} {v3:Value} (hr:fn.results = #[.cell t T,.cell u U,.tmp s]) (ht:look L t=some (.pointer (some ⟨b1,0,none⟩))) (hu:look L u=some (.pointer (some ⟨b2,0,none⟩))) (hs:look L s=some v3)
    (a1:aggP P T=some true) (n1:szP P T=some v1.length) (a2:aggP P U=some true) (n2:szP P U=some v2.length) (c1:Cells N R H b1 0 v1) (c2:Cells N R H b2 0 v2) :
    ∀ a w,Frm M L a→Sat N R H w→(results fn a.tmps).run P w=.ok (.tuple #[.agg v1.toArray,.agg v2.toArray,v3]) w:=by
  intro a w hf hs'
  have e1:a.tmps[t]?.getD undef=.pointer (some ⟨b1,0,none⟩):=by simpa using hf.get t _ ht
  have e2:a.tmps[u]?.getD undef=.pointer (some ⟨b2,0,none⟩):=by simpa using hf.get u _ hu
  have e3:a.tmps[s]?.getD undef=v3:=by simpa using hf.get s _ hs
  have l1:=run_loadCells_list (P:=P) (w:=w) ⟨b1,0,none⟩ v1 (fun j v hv=>by rw [Addr.add_lit]; exact c1 w hs' j v hv)
  have l2:=run_loadCells_list (P:=P) (w:=w) ⟨b2,0,none⟩ v2 (fun j v hv=>by rw [Addr.add_lit]; exact c2 w hs' j v hv)
  simp [results,hr,e1,e2,e3,loadVar,run_isAgg a1,run_isAgg a2,run_sizeOf n1,run_sizeOf n2,l1,l2,asAddr]
end Go.Eng
namespace Go.Eng
variable {C:Cx} {D:List Deferred} {R H:List PH} {L:Env} {K:List It}
end Go.Eng
namespace Go.Proofs.YtglifndogffmkaaGreat
open Go.Eng Go.Step
set_option maxRecDepth 100000
set_option maxHeartbeats 64000000
def revHp (l m:List Hp) (k:Nat):Prop:=m.length=l.length∧∀ p,p<l.length→m[p]?=if p<k∨l.length≤p+k then l[l.length-1-p]? else l[p]?
theorem revHp_zero (l:List Hp):revHp l l 0:=⟨rfl,fun p hp=>by rw [if_neg (by omega)]⟩
theorem revHp_end {l m:List Hp} {k:Nat} (h:revHp l m k) (hk:l.length≤2*k+1):m=l.reverse:=by
 apply List.ext_getElem?
 intro p
 by_cases hp:p<l.length
 ·rw [h.2 p hp,List.getElem?_reverse hp]
  split
  ·rfl
  ·rename_i hn
   have:p=l.length-1-p:=by omega
   rw [← this]
 ·rw [List.getElem?_eq_none (by rw [h.1]; omega),List.getElem?_eq_none (by simp; omega)]
theorem revHp_step {l m:List Hp} {k:Nat} {a c:Hp} (h:revHp l m k) (hk:2*k+1<l.length) (ha:m[k]?=some a) (hc:m[l.length-1-k]?=some c):revHp l ((m.set k c).set (l.length-1-k) a) (k+1):=by
 refine ⟨by simp [h.1],fun p hp=>?_⟩
 rw [List.getElem?_set,List.getElem?_set]
 have e1:=h.2 k (by omega)
 have e2:=h.2 (l.length-1-k) (by omega)
 rw [if_neg (by omega),ha] at e1
 rw [if_neg (by omega),hc] at e2
 by_cases c1:l.length-1-k=p
 ·subst c1
  rw [if_pos rfl,if_pos (by simp [h.1]; omega),if_pos (by omega),show l.length-1-(l.length-1-k)=k from by omega]
  exact e1
 ·rw [if_neg c1]
  by_cases c2:k=p
  ·subst c2
   rw [if_pos rfl,if_pos (by rw [h.1]; omega),if_pos (by omega)]
   exact e2
  ·rw [if_neg c2,h.2 p hp]
   by_cases c3:p<k∨l.length≤p+k
   ·rw [if_pos c3,if_pos (by omega)]
   ·rw [if_neg c3,if_neg (by omega)]
theorem tlReverse_spec (σ:PH) (v:Value) (l:List Hp) (hO:OwnS 127 4 v l.length (l.flatMap encHp) σ) (hl:l.length≤1000000) :
  Eng.Spec Tryz.prog (fv 85) [v] [] [σ] (fun r H'=>r=.tuple #[]∧∃ σ',OwnS 127 4 v l.length (l.reverse.flatMap encHp) σ'∧H'=[σ']):=by
 refine spec_in (cap:=[]) Tryz.func85 rfl rfl Tryz.ntmps85 rfl envZ (fun N β=>?_)
 have hlen:∃ p c,v=.slice p l.length c:=SlAt.cap hO.at
 obtain ⟨p,c,rfl⟩:=hlen
 refine Aab ?_;refine BC ?_;refine BZ ?_;refine Ab ?_;refine AL ?_
 refine BF [0] (X:=Nat × (List Hp × PH)) (0,(l,σ)) (fun x=>x.1≤l.length∧2*x.1≤l.length+1∧revHp l x.2.1 x.1∧OwnS 127 4 (.slice p l.length c) l.length (x.2.1.flatMap encHp) x.2.2) (fun x=>[(2,int x.1),(3,int ((l.length:Int)-1-x.1))]) (fun x=>[x.2.2]) (fun x=>l.length-x.1)
  pickZ ⟨by dsimp only; omega,by dsimp only; omega,revHp_zero l,hO⟩ ?_ selZ ?_
 ·refine ⟨rfl,?_,trivial⟩
  simp
  rfl
 rintro ⟨k,⟨m,σ1⟩⟩ ⟨hk,hk2,hR,hO1⟩
 dsimp only at hk hk2 hR hO1 ⊢
 by_cases hlt:(k:Int)<(l.length:Int)-1-k
 ·have hml:=hR.1
  have hkl:k<m.length:=by omega
  have hjl:l.length-1-k<m.length:=by omega
  have ha:=List.getElem?_eq_getElem hkl
  have hc:=List.getElem?_eq_getElem hjl
  have hst:=revHp_step hR (by omega) ha hc
  have ej:(l.length:Int)-1-k=((l.length-1-k:Nat):Int):=by omega
  have hO2:OwnS 127 4 (.slice p m.length c) m.length (m.flatMap encHp) σ1:=by rw [hml]; exact hO1
  rcases hO2.block with ⟨_,h2,_⟩|⟨b,cap,cur,e,_⟩
  ·rw [h2] at hkl; simp at hkl
  simp only [Value.slice.injEq] at e
  obtain ⟨rfl,_,rfl⟩:=e
  have r1:=ownRow encHp_len hO2 ha
  have r2:=ownRow encHp_len hO2 hc
  rw [ej];rw [ej] at hlt;refine Aco ?_;refine Aau ?_
  refine BD (.q 0 (.q 1 (.p 2 (.p 3 (.q 4 (.q 5 (.q 6 (.q 7 (.q 8 (.q 9 (.q 10 (.q 11 (.q 12 (.l 13 .b (.q 14 (.l 15 .b .nil)))))))))))))))) [] rfl (by kernel_rfl) selZ ?_
  refine Aar ?_;refine CD ?_;refine CD ?_;refine Aar ?_;refine Acp ?_;refine Ack ?_;refine' DQ rfl _ rfl rfl _ _
  rotate_left
  ·exact DS encHp_len (a:=m[l.length-1-k]) k hO2 rfl (Nat.zero_add _) rfl (by unfold encHp; exact oneZ) rfl takeZ hkl
  ·rintro _ _ ⟨_,_,_,rfl⟩ w hw; exact hw.sel selZ
  rintro _ _ ⟨rfl,σ2,hO3,rfl⟩;refine Ack ?_;refine' DQ rfl _ rfl rfl _ _
  rotate_left
  ·exact DS encHp_len (a:=m[k]) (l:=m.set k m[l.length-1-k]) (cap:=c) (l.length-1-k) hO3 rfl (Nat.zero_add _) rfl (by unfold encHp; exact oneZ) rfl takeZ (by rw [List.length_set]; exact hjl)
  ·rintro _ _ ⟨_,_,_,rfl⟩ w hw; exact hw.sel selZ
  rintro _ _ ⟨rfl,σ3,hO4,rfl⟩;refine BE ?_;refine Acb ?_;refine BJ ?_;refine AB ?_;refine B7 ?_;refine Ab ?_
  refine AY (k+1,((m.set k m[l.length-1-k]).set (l.length-1-k) m[k],σ3)) ⟨by dsimp only; omega,by dsimp only; omega,hst,?_⟩ (by dsimp only; omega) ?_ selZ
  ·dsimp only
   simp only [List.length_set] at hO4;rw [hml] at hO4;exact hO4
  ·dsimp only [List.cons_append,List.nil_append]
   rw [show (l.length:Int)-1-((k+1:Nat):Int)=((l.length-1-k-1:Nat):Int) from by omega]
   exact covZ
 ·refine AC ?_
  refine Aag ?_;refine Ab1 ?_;refine A9 (res0 rfl) rsubZ selZ ⟨rfl,σ1,?_,rfl⟩
  rw [← revHp_end hR (by omega)]
  exact hO1
theorem tlBefore_spec {γ τ lam:PH} {A:GA} {G:Gr} (hG:GrAt γ τ A G) (hg:GOK G) (v:Value) (l:List Lb) (hv:SlE encL 4 lam v l) (hl:l.length≤100000) (hlb:∀ x∈l,0≤x.a∧x.a≤2199023255552) (bL bG:Nat) (to:Lb) :
  Ans Tryz.prog (.func (.func 84) #[] #[.pointer (some ⟨bL,0,none⟩),.pointer (some ⟨bG,0,none⟩)]) [.agg #[int to.n,int to.f,int to.t,int to.a]] [sng bL (.cells #[v] 47 (0,0)),sng bG (.cells #[gp A] 81 (0,0)),γ,τ,lam]
   (fun r=>(∃ x∈l,∃ m∈mvs G x,leadB to m=true∧r=.tuple #[.agg #[int x.n,int x.f,int x.t,int x.a],.agg #[int m.2.c,int m.2.b,int m.2.e,int m.2.a],.bool true])∨((∀ x∈l,∀ m∈mvs G x,leadB to m=false)∧r=.tuple #[.agg #[int 0,int 0,int 0,int 0],.agg #[int 0,int 0,int 0,int 0],.bool false])):=by
 have hit:=fun c1 c2 (x:Lb) hx=>moves_iter hG hg c1 c2 x hx
 obtain ⟨bA,pq,nq,kq,pc,kc,pg,kg,pr,kr,pd,kd⟩:=A
 dsimp only at hit ⊢
 show Ans Tryz.prog _ _ [_,sng bG (.cells #[.pointer (some ⟨bA,0,none⟩)] 81 (0,0)),_,_,_] _
 obtain ⟨p,c,rfl,hrl⟩:=SlE.val encL_len hv
 have bx162_3:=rdB bL 47 [.slice p l.length c]
 have gL:=rdC bx162_3 0
 have bx163_3:=rdB bG 81 [.pointer (some ⟨bA,0,none⟩)]
 have gG:=rdC bx163_3 0
 refine spec_in (cap:=[.pointer (some ⟨bL,0,none⟩),.pointer (some ⟨bG,0,none⟩)]) Tryz.func84 rfl rfl Tryz.ntmps84 rfl envZ (fun N β=>?_)
 refine Aa ?_;refine BH (BI rfl) rfl rfl rfl ?_;rintro _ _ ⟨b3,rfl,rfl⟩;refine BH (CH rfl) rfl rfl rfl ?_;rintro _ _ ⟨b4,rfl,rfl⟩;refine BH (CH rfl) rfl rfl rfl ?_;rintro _ _ ⟨b5,rfl,rfl⟩;refine BH (DD rfl rfl) rfl rfl rfl ?_;rintro _ _ ⟨b6,rfl,rfl⟩;refine AQ (ρ:=sng b3 _) takeZ ?_
 have ct:=rdB b3 175 [int to.n,int to.f,int to.t,int to.a]
 have ct3:=rdC ct 3
 refine CC ?_;refine Aam ?_;refine Aa8 ?_;refine Abk ?_
 refine D9 [1,2,3,4,5,6,10,11] (X:=Nat × (List Nat × PH)) (0,([],emp)) (fun x=>x.2.1.map mk) (fun x=>x.1≤l.length∧(∀ y∈l.take x.1,∀ m∈mvs G y,leadB to m=false)∧MkIn x.2.2 x.2.1) (fun x=>[(12,int (x.1:Int))]) (fun x=>[sng b6 (.cells #[.bool false] 4 (0,0)),sng b5 (.cells #[int 0,int 0,int 0,int 0] 127 (0,0)),sng b4 (.cells #[int 0,int 0,int 0,int 0] 175 (0,0)),x.2.2]) (fun x=>l.length-x.1) pickZ rfl ⟨Nat.zero_le _,fun y h=>(by cases h),MkIn.nil⟩ covZ selZ ?_
 rintro ⟨k,⟨ms,μ⟩⟩ ⟨hk,hno,hM⟩
 dsimp only at hk hno hM ⊢
 by_cases hlt:k<l.length
 rotate_left
 ·have hke:k=l.length:=by omega
  subst hke;rw [List.take_length] at hno;refine Abl ?_;refine Aa ?_;refine B0 ?_;refine B0 ?_;refine AW ?_; rintro _ _ ⟨rfl,rfl⟩;refine AW ?_; rintro _ _ ⟨rfl,rfl⟩;refine BM ?_; rintro _ _ ⟨rfl,rfl⟩;refine AE ?_;exact DR hM takeZ (resSSC (b1:=b4) (b2:=b5) (b3:=b6) (T:=175) (U:=127) (V:=4) (v1:=[int 0,int 0,int 0,int 0]) (v2:=[int 0,int 0,int 0,int 0]) (v3:=.bool false) rfl rfl rfl rfl rfl rfl rfl rfl rfl (cells_own memZ) (cells_own memZ) (cell_own memZ rfl)) rsubZ selZ ⟨rfl,.inr ⟨hno,rfl⟩⟩
 have hx:=List.getElem?_eq_getElem hlt
 have hxm:=List.getElem_mem hlt
 have hxb:=hlb _ hxm
 have htk:l.take (k+1)=l.take k ++ [l[k]]:=by rw [List.take_succ,hx]; rfl
 obtain ⟨bl,ol,rfl,hrd⟩:=hrl k _ hx
 have hit1:=fun c1 c2=>hit c1 c2 _ hxb
 have hmv:=moves_spec bA l[k]
 generalize l[k]=x at hx hxm hxb htk hrd hit1 hmv
 have hrd:RdN lam bl (ol+k*4) [int x.n,int x.f,int x.t,int x.a]:=hrd
 refine Ab2 ?_;refine A4 ?_; rintro _ _ ⟨b,rfl,rfl⟩;refine AW ?_; rintro _ _ ⟨rfl,rfl⟩;refine Ac3 ?_;refine AK ?_
 revert b; intro b8
 refine AQ (ρ:=sng b8 _) takeZ ?_
 have cx:=rdB b8 175 [int x.n,int x.f,int x.t,int x.a]
 skip
 refine BA hmv rfl rfl takesZ rdZ rfl rfl ?_;rintro _ _ ⟨c1,c2,rfl,rfl⟩;simp only [List.cons_append,List.nil_append];refine AQ (ρ:=sng c2 _) takeZ ?_;refine AQ (ρ:=sng c1 _) takeZ ?_;refine Adi ?_
 refine DF (gf:=149) (cap:=[.pointer (some ⟨c1,0,none⟩),.pointer (some ⟨c2,0,none⟩)]) (ps:=[19]) (X:=Option (Lb × Hp)) rfl Tryz.func149 rfl rfl
  (hit1 c1 c2) ?_ (fun j o=>o=none∧∀ m∈(mvs G x).take j,leadB to m=false) (fun o=>match o with
   | none=>[sng b6 (.cells #[.bool false] 4 (0,0)),sng b5 (.cells #[int 0,int 0,int 0,int 0] 127 (0,0)),sng b4 (.cells #[int 0,int 0,int 0,int 0] 175 (0,0))]
   | some m=>[sng b6 (.cells #[.bool true] 4 (0,0)),sng b5 (.cells #[int m.2.c,int m.2.b,int m.2.e,int m.2.a] 127 (0,0)),sng b4 (.cells #[int x.n,int x.f,int x.t,int x.a] 175 (0,0))]) (fun c o=>c=.ret∧∃ m∈mvs G x,leadB to m=true∧o=some m) none rfl takesZ ⟨rfl,fun m h=>(by cases h)⟩ ?_ ?_ ?_
 ·intro σ hσ
  simp only [List.mem_cons,List.not_mem_nil,or_false] at hσ ⊢
  rcases hσ with h|h|h|h <;> simp [h]
 ·rintro lo r j _ vs hvs ⟨rfl,hnj⟩ hps has hbd hst hpe hfr
  dsimp only
  obtain ⟨st,pe,fnn,tm,prm,asg,bdy,df⟩:=r
  simp only at hps has hbd hst hpe hfr;subst hps has hbd hst hpe;rw [List.getElem?_map] at hvs
  obtain ⟨m,hm,rfl⟩:=Option.map_eq_some_iff.1 hvs
  have hmm:=List.mem_of_getElem? hm
  have hmt:(mvs G x).take (j+1)=(mvs G x).take j ++ [m]:=by rw [List.take_add_one,hm]; rfl
  have hsm:=same_spec m.1 to
  refine yield_spec hfr rfl (by intro p hp; simp at hp; omega) putiZ (fun N' β'=>?_)
  unfold encM;refine AA ?_;refine A4 ?_; rintro _ _ ⟨b,rfl,rfl⟩;refine AW ?_; rintro _ _ ⟨rfl,rfl⟩;refine AE ?_
  revert b; intro b9
  refine C5 rfl rfl ?_;refine DE takeZ rfl ?_;refine AQ (ρ:=sng b9 _) takeZ ?_
  have bx279_3:=rdB b9 180 [int m.1.n,int m.1.f,int m.1.t,int m.1.a,int m.2.c,int m.2.b,int m.2.e,int m.2.a]
  have mz3:=rdC bx279_3 3
  have mP:=rdQ (xs:=[_,_,_,_]) bx279_3
  have mH:RdP (sng b9 (.cells #[int m.1.n,int m.1.f,int m.1.t,int m.1.a,int m.2.c,int m.2.b,int m.2.e,int m.2.a] 180 (0,0))) b9 4 [int m.2.c,int m.2.b,int m.2.e,int m.2.a]:=rdP_sng (xs:=[int m.1.n,int m.1.f,int m.1.t,int m.1.a,int m.2.c,int m.2.b,int m.2.e,int m.2.a]) rfl
  refine AL ?_;refine Acn ?_;refine AK ?_;refine AZ hsm rfl rfl rdZ rfl rfl ?_;rintro _ rfl
  have skip:leadB to m=false→∀ y∈(mvs G x).take (j+1),leadB to y=false:=fun h y hy=>by
   rw [hmt,List.mem_append,List.mem_singleton] at hy
   rcases hy with hy|rfl
   ·exact hnj y hy
   ·exact h
  cases hs1:sameL m.1 to with
  | false =>
   refine Ab5 ?_;refine Aaf ?_;refine Ab3 ?_;refine A6 ?_
   exact B9 takeZ rsubZ selZ ⟨none,.inl ⟨rfl,⟨rfl,skip (by unfold leadB; rw [hs1]; rfl)⟩,rfl⟩⟩
  | true =>
   by_cases hta:m.1.a=to.a
   ·have hle:leadB to m=true:=leadB_iff.2 ⟨hs1,hta⟩
    refine AB ?_;refine Ac2 ?_;refine Aae ?_;refine CO ?_;refine Ac4 ?_;refine AC ?_
    refine BD (.q 0 (.p 1 (.p 2 (.l 3 .b (.l 4 .b (.l 5 .b .nil)))))) [] rfl (by kernel_rfl) Sel.nil ?_
    refine A8 ?_;refine EB ?_;refine FL ?_
    focus ((refine B4 ?_; refine' DQ rfl _ rfl rfl _ _; rotate_left; (apply C7; exact rfl; exact rfl; exact takeZ; exact oneZ; exact rfl; exact rfl); (focus (rintro _ _ ⟨_,rfl⟩ w hw; exact hw.sel selZ)); rintro _ _ ⟨rfl,rfl⟩))
    focus ((refine B4 ?_; refine' DQ rfl _ rfl rfl _ _; rotate_left; (apply C7; exact rfl; exact rfl; exact takeZ; exact oneZ; exact rfl; exact rfl); (focus (rintro _ _ ⟨_,rfl⟩ w hw; exact hw.sel selZ)); rintro _ _ ⟨rfl,rfl⟩))
    refine CN ?_; rintro _ _ ⟨rfl,rfl⟩;refine BE ?_
    skip
    exact EP takeZ rsubZ selZ ⟨some m,.inr ⟨rfl,.ret,⟨rfl,m,hmm,hle,rfl⟩,rfl⟩⟩
   ·refine AB ?_
    refine Ac2 ?_;refine Aae ?_;refine CA ?_;refine Adb ?_;refine A6 ?_
    exact B9 takeZ rsubZ selZ ⟨none,.inl ⟨rfl,⟨rfl,skip (by unfold leadB; rw [hs1,decide_eq_false hta]; rfl)⟩,rfl⟩⟩
 ·rintro bm _ ⟨rfl,hna⟩
  dsimp only
  simp only [List.cons_append,List.nil_append];rw [List.length_map,List.take_length] at hna
  refine D8 (R':=[sng b3 (.cells #[int to.n,int to.f,int to.t,int to.a] 175 (0,0)),β,sng bL (.cells #[.slice (some ⟨bl,ol,none⟩) l.length c] 47 (0,0)),sng bG (.cells #[.pointer (some ⟨bA,0,none⟩)] 81 (0,0)),γ,τ,lam]) (by intro σ hσ; simp at hσ ⊢; rcases hσ with h|h|h|h|h|h|h <;> simp [h]) ?_
  refine C0 (b:=bm) takeZ (μ:=μ) takeZ hM ?_
  intro μ2 hM2
  refine A6 ?_;refine Aa3 ?_
  refine DW (k+1,(bm::ms,μ2)) rfl ⟨by dsimp only; omega,fun y hy=>?_,hM2⟩ (by dsimp only; omega) covZ selZ
  dsimp only at hy
  rw [htk,List.mem_append,List.mem_singleton] at hy
  rcases hy with hy|rfl
  ·exact hno y hy
  ·exact hna
 ·rintro bm cc _ ⟨rfl,m,hmm,hle,rfl⟩
  dsimp only
  simp only [List.cons_append,List.nil_append];refine C0 (b:=bm) takeZ (μ:=μ) takeZ hM ?_
  intro μ2 hM2
  exact DR hM2 takeZ (resSSC (b1:=b4) (b2:=b5) (b3:=b6) (T:=175) (U:=127) (V:=4) (v1:=[int x.n,int x.f,int x.t,int x.a]) (v2:=[int m.2.c,int m.2.b,int m.2.e,int m.2.a]) (v3:=.bool true) rfl rfl rfl rfl rfl rfl rfl rfl rfl (cells_own memZ) (cells_own memZ) (cell_own memZ rfl)) rsubZ selZ ⟨rfl,.inl ⟨x,hxm,m,hmm,hle,rfl⟩⟩
section
variable {ρ τ σ υ:PH} {pq pc pb ph:Option Addr} {kq kc kb kh:Nat} {qs:List Int} {cs:List Ct} {bs:List Bk} {hs:List Hd} {q:Rq}
theorem tlEarl_spec (hT:TbAt ρ τ σ υ pq pc pb ph kq kc kb kh qs cs bs hs) (hK:TOK qs cs bs hs q) :
  Makes Tryz.prog (fv 29) [.agg #[.slice pq qs.length kq,.slice pc cs.length kc,.slice pb bs.length kb,.slice ph hs.length kh],.agg #[int q.src,int q.dst,int q.size,int q.rdy,int q.dln,int q.pri,.bool q.cus]] [ρ,τ,σ,υ] (fun r χ=>(∃ l u,RtFnd qs cs bs hs q l∧r=.tuple #[u,int 0]∧OwnS 127 4 u l.length (l.flatMap encHp) χ)∨∃ e:Int,e≠0∧r=.tuple #[.slice none 0 0,int e]):=by
 have hb:=build_spec hT hK
 have hg:=grOf_ok hK
 have hasc:=gaps_asc hK
 have hqq:(grOf qs cs bs hs q).q=q:=rfl
 have hfo:∀ l:List Hp,(∃ L y w,LabR (grOf qs cs bs hs q) L∧y∈begs (grOf qs cs bs hs q)∧Fro (grOf qs cs bs hs q) L y w∧l=w.map (·.2))→l.length≤1000→RtFnd qs cs bs hs q l:=fun l h1 h2=>⟨h1,h2⟩
 generalize grOf qs cs bs hs q=G at hb hg hasc hqq hfo
 refine spec_in (cap:=[]) Tryz.func29 rfl rfl Tryz.ntmps29 rfl envZ (fun N β=>?_)
 refine Aa ?_;refine BH (BI rfl) rfl rfl rfl ?_;rintro _ _ ⟨b2,rfl,rfl⟩;refine BH (BI rfl) rfl rfl rfl ?_;rintro _ _ ⟨b3,rfl,rfl⟩;refine AQ (ρ:=sng b2 _) takeZ ?_;refine AQ (ρ:=sng b3 _) takeZ ?_
 have ct:=rdB b2 42 [.slice pq qs.length kq,.slice pc cs.length kc,.slice pb bs.length kb,.slice ph hs.length kh]
 have cr:=rdB b3 28 [int q.src,int q.dst,int q.size,int q.rdy,int q.dln,int q.pri,.bool q.cus]
 have cr0:=rdC cr 0
 have cr1:=rdC cr 1
 have cr3:=rdC cr 3
 refine Ab ?_;refine Ac ?_;refine CJ hb rfl rfl rdZ rfl rfl ?_;rintro _ γ ⟨A,rfl,hG⟩;refine AQ (ρ:=γ) takeZ ?_
 have hla:=labels_spec hG hg
 refine Abv ?_;refine CB ?_; rintro _ _ ⟨b,rfl,rfl⟩;refine BM ?_; rintro _ _ ⟨rfl,rfl⟩;refine Ade ?_;refine Aai ?_;refine Aa8 ?_
 revert b; intro b6
 refine AQ (ρ:=sng b6 _) takeZ ?_
 have bx64_3:=rdB b6 81 [gp A]
 have g0:=rdC bx64_3 0
 skip
 refine CJ hla rfl rfl rdZ rfl rfl ?_;rintro v lam ⟨L,hL,hO⟩;refine AQ (ρ:=lam) takeZ ?_
 have hv1:=oneO _ _ _ _ hO
 have hSL:SlE encL 4 lam v L:=hO.at
 have hLl:=hL.len
 have hlb:∀ x∈L,0≤x.a∧x.a≤2199023255552:=fun x hx=>by have:=fine_bd hg (rch_fine hg (hL.rch x hx)); omega
 have har:=grArr_spec hG hg v L hSL (by omega) hlb
 have hbef:=fun bL bG to=>tlBefore_spec hG hg v L hSL (by omega) hlb bL bG to
 refine CB ?_; rintro _ _ ⟨b,rfl,rfl⟩;refine BM ?_; rintro _ _ ⟨rfl,rfl⟩;refine Ac3 ?_;refine AF ?_
 revert b; intro b8
 refine AQ (ρ:=sng b8 _) takeZ ?_
 have g1:rdc (sng b8 (.cells #[v] 47 (0,0))) b8 0=some v:=by rw [rdc_sng]; rfl
 skip
 refine AZ har rfl rfl rdZ rfl rfl ?_;rintro _ rfl
 cases ha:arrR G L with
 | none =>
  simp only [Option.getD_none,Option.isSome_none];refine CC ?_;refine Adn ?_;refine Ade ?_;refine Ac5 ?_
  exact AT (res2 rfl rfl rfl) rsubZ selZ ⟨emp,.inr ⟨18,by decide,rfl⟩,rfl⟩
 | some a =>
 simp only [Option.getD_some,Option.isSome_some]
 obtain ⟨xa,hxa,ma,hma,hna,hae⟩:=arr_some ha
 have hab:=mvs_later hg hma
 have hax:=hlb xa hxa
 have hdl:=hg.q.2.2.2.2.2.2.1
 have hqd:G.q.dst=q.dst:=by rw [hqq]
 refine CC ?_;refine Adn ?_;refine Ade ?_;refine Aai ?_;refine Aa ?_;refine B3 ?_;refine Adm ?_;refine Aaj ?_;refine Aan ?_;refine AB ?_;refine B0 ?_;refine A4 ?_; rintro _ _ ⟨b,rfl,rfl⟩;refine AW ?_; rintro _ _ ⟨rfl,rfl⟩;refine Adi ?_
 revert b; intro b13
 have hI0:OnW G L (dstL G a)∧Fro G L (dstL G a) []∧(∃ x∈L,∃ m∈mvs G x,leadB (dstL G a) m=true):=⟨.inr rfl,.nil rfl,lead_dst ha⟩
 refine BF [2,3,6,8,11] (X:=(Lb × List (Lb × Hp)) × (Nat × (Value × PH))) ((dstL G a,[]),(b13,(.slice none 0 0,emp))) (fun z=>(OnW G L z.1.1∧Fro G L z.1.1 z.1.2∧(∃ x∈L,∃ m∈mvs G x,leadB z.1.1 m=true))∧0≤z.1.1.a∧(z.1.2.length:Int)+z.1.1.a≤1099511627776∧OwnS 127 4 z.2.2.1 (z.1.2.map (·.2)).reverse.length ((z.1.2.map (·.2)).reverse.flatMap encHp) z.2.2.2) (fun z=>[(13,.pointer (some ⟨z.2.1,0,none⟩)),(12,z.2.2.1)]) (fun z=>[sng z.2.1 (.cells #[int z.1.1.n,int z.1.1.f,int z.1.1.t,int z.1.1.a] 175 (0,0)),z.2.2.2]) (fun z=>z.1.1.a.toNat) pickZ ⟨hI0,by show 0≤a; omega,by show (0:Int)+a≤_; omega,OwnS.nil _ _⟩ covZ ?_ ?_
 ·rw [← hqd]
  exact selZ
 rintro ⟨⟨to,w⟩,⟨bt,⟨u,σ1⟩⟩⟩ ⟨⟨hon,hfr,hex⟩,ht0,hwl,hOu⟩
 dsimp only at hon hfr hex ht0 hwl hOu ⊢
 have hu1:=oneO _ _ _ _ hOu
 have hb1:=hbef b8 b6 to
 refine AC ?_;refine AL ?_;refine Aab ?_;refine AK ?_;refine AZ hb1 rfl rfl rdZ rfl rfl ?_;rintro _ (⟨x,hx,m,hm,hle,rfl⟩|⟨hno,_⟩)
 rotate_left
 ·exfalso
  obtain ⟨x,hx,m,hm,hle⟩:=hex
  rw [hno x hx m hm] at hle
  cases hle
 obtain ⟨hfr2,hlt⟩:=fro_back hg hL hon hx hm hle hfr
 have hxb:=hlb x hx
 have hrd:=rch_rdy hg (hL.rch x hx)
 have hlw:(w.map (·.2)).reverse.length=w.length:=by simp
 have hrv:((w.map (·.2)).reverse ++ [m.2])=(((x,m.2)::w).map (·.2)).reverse:=by simp
 refine Abv ?_;refine AX ?_;refine A4 ?_; rintro _ _ ⟨b,rfl,rfl⟩;refine A4 ?_; rintro _ _ ⟨b,rfl,rfl⟩;refine AW ?_; rintro _ _ ⟨rfl,rfl⟩;refine AW ?_; rintro _ _ ⟨rfl,rfl⟩;refine Ade ?_;refine Aai ?_;refine Aab ?_;refine AK ?_;refine BQ ?_; rintro _ _ ⟨b,rfl,rfl⟩
 revert b; intro bn
 revert b; intro b15
 revert b; intro b14
 refine AQ (ρ:=sng b14 _) takeZ ?_
 have xw:=rdB b14 175 [int x.n,int x.f,int x.t,int x.a]
 have xz0:=rdC xw 0
 have xz3:=rdC xw 3
 refine BH (CG (by_:=32) (s:=4) (news:=[int m.2.c,int m.2.b,int m.2.e,int m.2.a]) rfl rfl rfl rfl rfl rfl rfl hOu takeZ (cells_own memZ) rfl oneZ (by omega) (by simp only [maxLen]; omega) (by omega)) rfl rfl rfl ?_
 rintro u2 _ ⟨σ2,hO2,rfl⟩
 have hO3:OwnS 127 4 u2 (((x,m.2)::w).map (·.2)).reverse.length ((((x,m.2)::w).map (·.2)).reverse.flatMap encHp) σ2:=by
  rw [← hrv,List.length_append,List.flatMap_append];exact hO2
 clear hO2
 have hu2:=oneO _ _ _ _ hO3
 by_cases hbg:x.n=q.src∧x.a=q.rdy
 rotate_left
 ·refine AD ?_
  refine AE ?_;refine Aas ?_;refine AW ?_; rintro _ _ ⟨rfl,rfl⟩;refine Aca ?_;refine Aae ?_
  by_cases hn:x.n=q.src
  ·have hna2:¬ x.a=q.rdy:=fun h=>hbg ⟨hn,h⟩
   refine CO ?_;refine Abu ?_;refine CA ?_;refine Adb ?_;refine A6 ?_;refine Aas ?_;refine AE ?_;refine AA ?_;refine A4 ?_; rintro _ _ ⟨b,rfl,rfl⟩;refine AW ?_; rintro _ _ ⟨rfl,rfl⟩;refine AE ?_
   revert b; intro b13n
   refine BS ?_
   refine AY ((x,(x,m.2)::w),(b13n,(u2,σ2))) ⟨⟨.inl hx,hfr2,lead_ex hg hasc hL hx (by rw [hqq]; exact hbg)⟩,hxb.1,?_,hO3⟩ ?_ covZ selZ
   ·dsimp only; rw [List.length_cons]; omega
   ·dsimp only; omega
  ·refine CA ?_
   refine Ac6 ?_;refine Ab3 ?_;refine A6 ?_;refine Aas ?_;refine AE ?_;refine AA ?_;refine A4 ?_; rintro _ _ ⟨b,rfl,rfl⟩;refine AW ?_; rintro _ _ ⟨rfl,rfl⟩;refine AE ?_
   revert b; intro b13n
   refine BS ?_
   refine AY ((x,(x,m.2)::w),(b13n,(u2,σ2))) ⟨⟨.inl hx,hfr2,lead_ex hg hasc hL hx (by rw [hqq]; exact hbg)⟩,hxb.1,?_,hO3⟩ ?_ covZ selZ
   ·dsimp only; rw [List.length_cons]; omega
   ·dsimp only; omega
 obtain ⟨hb2,hb3⟩:=hbg
 obtain ⟨pu,ku,rfl⟩:=hO3.form
 have hbeg:=rch_beg hg (hL.rch x hx) (by rw [hqq]; exact hb3)
 have hwl2:(((x,m.2)::w).map (·.2)).reverse.length=w.length+1:=by simp
 have hrev:(((x,m.2)::w).map (·.2)).reverse.reverse=((x,m.2)::w).map (·.2):=List.reverse_reverse _
 have hfo2:=hfo (((x,m.2)::w).map (·.2)) ⟨L,x,(x,m.2)::w,hL,hbeg,hfr2,rfl⟩
 have hlf:(((x,m.2)::w).map (·.2)).length=w.length+1:=by simp
 generalize (((x,m.2)::w).map (·.2)).reverse=Q at *
 generalize ((x,m.2)::w).map (·.2)=F at *
 by_cases h1000:1000<w.length+1
 ·refine CC ?_
  refine Aaa ?_;refine Aas ?_;refine AW ?_; rintro _ _ ⟨rfl,rfl⟩;refine Aca ?_;refine Aae ?_;refine CO ?_;refine Abu ?_;refine CO ?_;refine Ac4 ?_;refine A5 rfl ?_;refine AC ?_;refine Aab ?_;refine Adh ?_;refine Ac5 ?_
  exact AT (res2 rfl rfl rfl) rsubZ selZ ⟨emp,.inr ⟨4,by decide,rfl⟩,rfl⟩
 have hre:=tlReverse_spec σ2 _ Q hO3 (by omega)
 rw [hrev] at hre;refine Aaa ?_;refine Aas ?_;refine AW ?_; rintro _ _ ⟨rfl,rfl⟩;refine Aca ?_;refine Aae ?_;refine CO ?_;refine Abu ?_;refine CO ?_;refine Ac4 ?_;refine A5 rfl ?_;refine AC ?_;refine Aab ?_;refine Acq ?_;refine Aai ?_;refine Aab ?_;refine BA hre rfl rfl takesZ rdZ rfl rfl ?_;rintro _ _ ⟨rfl,σ3,hO4,rfl⟩;refine AE ?_;refine Aab ?_;refine Ab ?_
 refine AT (res2 rfl rfl rfl) rsubZ selZ ⟨σ3,.inl ⟨F,_,hfo2 (by omega),rfl,?_⟩,rfl⟩
 rw [hlf,← hwl2];exact hO4
end
end Go.Proofs.YtglifndogffmkaaGreat
namespace Go.Proofs.YtglifndogffmkaaGreat
open Go.Eng Go.Step
set_option maxRecDepth 100000
set_option maxHeartbeats 64000000
theorem ones_T:∀ (l:List TkM),∀ u∈l.flatMap encT,u.oneCell'=true:=fun l u hu=>by
 obtain ⟨x,_,hx⟩:=List.mem_flatMap.1 hu
 simp only [encT,List.mem_cons,List.not_mem_nil,or_false] at hx
 rcases hx with rfl|rfl|rfl|rfl|rfl|rfl|rfl|rfl|rfl|rfl|rfl <;> rfl
theorem tlCloneT_spec (ρ:PH) (v:Value) (l:List TkM) (hv:SlE encT 11 ρ v l) (hl:l.length≤1000000) :
  Makes Tryz.prog (fv 94) [v] [ρ] (fun r σ=>OwnS 106 11 r l.length (l.flatMap encT) σ):=by
 have hv2:=hv
 obtain ⟨q,c,rfl,hr⟩:=hv.val encT_len
 refine spec_in (cap:=[]) Tryz.func94 rfl rfl Tryz.ntmps94 rfl envZ (fun N β=>?_)
 cases q with
 | none =>
  have hnil:l=[]:=by
   cases l with
   | nil=>rfl
   | cons a l =>
    obtain ⟨b,o,e,_⟩:=hr 0 a rfl
    simp at e
  subst hnil;refine CC ?_;refine Acm ?_
  focus ((refine' CK _ rfl rfl rfl _; rotate_left; (apply FA; exact rfl; exact rfl; exact rfl)))
  refine Abt ?_;exact AT (res1 rfl rfl) rsubZ selZ ⟨emp,OwnS.nil _ _,rfl⟩
 | some ad =>
  refine Acm ?_
  focus ((refine' CK _ rfl rfl rfl _; rotate_left; (apply GB; exact rfl; exact rfl; exact rfl)))
  refine Aai ?_;refine Aa ?_;refine BQ ?_; rintro _ _ ⟨b,rfl,rfl⟩;refine AB ?_
  refine BH (DY (by_:=104) (s:=11) (σ:=ρ) (news:=l.flatMap encT) (m:=l.length) rfl rfl rfl rfl rfl rfl rfl (OwnS.empty (b:=b)) takeZ hv2 (fun b o h=>cellsR h memZ) (ones_T l) (by simp only [maxLen]; omega) (by omega)) rfl rfl rfl ?_
  rintro r1 _ ⟨σ,hO,rfl⟩;refine Aaa ?_;refine AT (res1 rfl rfl) rsubZ selZ ⟨σ,?_,rfl⟩
  simpa using hO
theorem tlSet1_spec (b3:Nat) (x y:TkM) (hne:y.t.k≠x.t.k):Ans Tryz.prog (.func (.func 96) #[] #[.pointer (some ⟨b3,0,none⟩)]) [.agg #[int y.t.k,int y.t.q.src,int y.t.q.dst,int y.t.q.size,int y.t.q.rdy,int y.t.q.dln,int y.t.q.pri,.bool y.t.q.cus,.slice y.p y.t.hops.length y.c,int 1,int 0]] [sng b3 (.cells #[int x.t.k,int x.t.q.src,int x.t.q.dst,int x.t.q.size,int x.t.q.rdy,int x.t.q.dln,int x.t.q.pri,.bool x.t.q.cus,.slice x.p x.t.hops.length x.c,int 1,int 0] 106 (0,0))] (fun r=>r=.bool false):=by
 have bx71_3:=rdB b3 106 [int x.t.k,int x.t.q.src,int x.t.q.dst,int x.t.q.size,int x.t.q.rdy,int x.t.q.dln,int x.t.q.pri,.bool x.t.q.cus,.slice x.p x.t.hops.length x.c,int 1,int 0]
 have cx0:=rdC bx71_3 0
 refine spec_in (cap:=[.pointer (some ⟨b3,0,none⟩)]) Tryz.func96 rfl rfl Tryz.ntmps96 rfl envZ (fun N β=>?_)
 refine Aa ?_;refine BH (BI rfl) rfl rfl rfl ?_;rintro _ _ ⟨b2,rfl,rfl⟩;refine AQ (ρ:=sng b2 _) takeZ ?_
 have bx78_3:=rdB b2 106 [int y.t.k,int y.t.q.src,int y.t.q.dst,int y.t.q.size,int y.t.q.rdy,int y.t.q.dln,int y.t.q.pri,.bool y.t.q.cus,.slice y.p y.t.hops.length y.c,int 1,int 0]
 have cy0:=rdC bx78_3 0
 refine Abx ?_;refine Aae ?_;refine CA ?_;refine Aaa ?_;exact A3 ⟨rfl,rfl⟩
theorem tlIdxT_spec (ρ:PH) (v:Value) (l:List TkM) (hv:SlE encT 11 ρ v l) (hl:l.length≤1000000) (b3:Nat) (x:TkM) (hne:∀ y∈l,y.t.k≠x.t.k) :
  Ans Tryz.prog (fv 95) [v,.func (.func 96) #[] #[.pointer (some ⟨b3,0,none⟩)]] [ρ,sng b3 (.cells #[int x.t.k,int x.t.q.src,int x.t.q.dst,int x.t.q.size,int x.t.q.rdy,int x.t.q.dln,int x.t.q.pri,.bool x.t.q.cus,.slice x.p x.t.hops.length x.c,int 1,int 0] 106 (0,0))] (fun r=>r=int (-1)):=by
 obtain ⟨q,c,rfl,hr⟩:=hv.val encT_len
 refine spec_in (cap:=[]) Tryz.func95 rfl rfl Tryz.ntmps95 rfl envZ (fun N β=>?_)
 refine Adf ?_
 refine BF [0,1,6,7] (0:Nat) (fun k=>k≤l.length) (fun k=>[(8,int k)]) (fun _=>[]) (fun k=>l.length-k) pickZ (Nat.zero_le _) covZ selZ ?_
 rintro k hk
 by_cases hlt:k<l.length
 ·have hx:=List.getElem?_eq_getElem hlt
  have hney:=hne _ (List.getElem_mem hlt)
  obtain ⟨b7,o7,rfl,hrd⟩:=hr k _ hx
  generalize l[k]=y at hx hrd hney
  have hfx:=tlSet1_spec b3 x y hney
  have hrd:RdN ρ b7 (o7+k*11) [int y.t.k,int y.t.q.src,int y.t.q.dst,int y.t.q.size,int y.t.q.rdy,int y.t.q.dln,int y.t.q.pri,.bool y.t.q.cus,.slice y.p y.t.hops.length y.c,int 1,int 0]:=hrd
  refine Ado ?_;refine Ac9 ?_;refine Abb ?_;refine AZ hfx rfl rfl rdZ rfl rfl ?_;rintro _ rfl;refine Acg ?_
  exact AY (k+1) (by omega) (by omega) covZ selZ
 ·have hke:k=l.length:=by omega
  subst hke;refine Abl ?_;refine Aaq ?_;exact A3 ⟨rfl,rfl⟩
section
variable {pq pc pt:Option Addr} {nq nc kq kc kt:Nat}
theorem tlNext_spec (bb:Nat) (κ:PH) (l:List TkM) (hv:SlE encT 11 κ (.slice pt l.length kt) l) (hl:l.length≤100) (hn:∀ (i:Nat) (x:TkM),l[i]?=some x→x.t.k=(i:Int)+1) :
  Ans Tryz.prog (fv 33) [.pointer (some ⟨bb,0,none⟩)] [sng bb (.cells #[.slice pq nq kq,.slice pc nc kc,.slice none 0 0,.slice pt l.length kt] 97 (0,0)),κ] (fun r=>r=int ((l.length:Int)+1)):=by
 obtain ⟨_,_,e,hr⟩:=SlE.val encT_len hv
 simp only [Value.slice.injEq] at e
 obtain ⟨rfl,_,rfl⟩:=e
 have bx169_3:=rdB bb 97 [.slice pq nq kq,.slice pc nc kc,.slice none 0 0,.slice pt l.length kt]
 have cb3:=rdC bx169_3 3
 refine spec_in (cap:=[]) Tryz.func33 rfl rfl Tryz.ntmps33 rfl envZ (fun N β=>?_)
 by_cases h0:l.length=0
 ·rw [h0] at cb3 ⊢
  refine Acm ?_;refine BT ?_;refine Ac2 ?_;refine BC ?_;refine CO ?_;refine Abt ?_;exact A3 ⟨rfl,rfl⟩
 have hx:=List.getElem?_eq_getElem (show l.length-1<l.length by omega)
 have hk:=hn _ _ hx
 obtain ⟨b7,o7,rfl,hrd⟩:=hr _ _ hx
 generalize l[l.length-1]=y at hx hrd hk
 have r0:rdc κ b7 (o7+(l.length-1)*11)=some (int y.t.k):=hrd.get0
 have ek:y.t.k=(l.length:Int):=by omega
 rw [ek] at r0;refine Acm ?_;refine BT ?_;refine Ac2 ?_;refine BC ?_;refine CA ?_;refine Aa6 ?_
 refine BD P3Z [] rfl (by kernel_rfl) selZ ?_
 refine AM ?_;refine Abs ?_;refine Aak ?_;refine AM ?_;refine Abs ?_;refine Aak ?_;refine FU ?_;refine BX ?_;refine BB ?_;refine DN ?_;refine AP ?_;refine FB ?_;refine Acr ?_
 skip
 exact A3 ⟨rfl,rfl⟩
theorem tlSet_spec (bb:Nat) (κ:PH) (l:List TkM) (hO:OwnS 106 11 (.slice pt l.length kt) l.length (l.flatMap encT) κ) (hl:l.length≤100) (x:TkM) (hne:∀ y∈l,y.t.k≠x.t.k) :
  Eng.Spec Tryz.prog (fv 34) [.pointer (some ⟨bb,0,none⟩),.agg #[int x.t.k,int x.t.q.src,int x.t.q.dst,int x.t.q.size,int x.t.q.rdy,int x.t.q.dln,int x.t.q.pri,.bool x.t.q.cus,.slice x.p x.t.hops.length x.c,int 1,int 0]] [] [sng bb (.cells #[.slice pq nq kq,.slice pc nc kc,.slice none 0 0,.slice pt l.length kt] 97 (0,0)),κ] (fun r H'=>r=.tuple #[]∧∃ pt' kt' κ',OwnS 106 11 (.slice pt' (l ++ [x]).length kt') (l ++ [x]).length ((l ++ [x]).flatMap encT) κ'∧H'=[sng bb (.cells #[.slice pq nq kq,.slice pc nc kc,.slice none 0 0,.slice pt' (l ++ [x]).length kt'] 97 (0,0)),κ']):=by
 have bx242_3:=rdB bb 97 [.slice pq nq kq,.slice pc nc kc,.slice none 0 0,.slice pt l.length kt]
 have cb3:=rdC bx242_3 3
 have hix:=fun b3=>tlIdxT_spec κ _ l hO.at (by omega) b3 x hne
 refine spec_in (cap:=[]) Tryz.func34 rfl rfl Tryz.ntmps34 rfl envZ (fun N β=>?_)
 refine Aa ?_;refine BH (BI rfl) rfl rfl rfl ?_;rintro _ _ ⟨b3,rfl,rfl⟩;refine AQ (ρ:=sng b3 _) takeZ ?_
 have cx:=rdB b3 106 [int x.t.k,int x.t.q.src,int x.t.q.dst,int x.t.q.size,int x.t.q.rdy,int x.t.q.dln,int x.t.q.pri,.bool x.t.q.cus,.slice x.p x.t.hops.length x.c,int 1,int 0]
 refine AE ?_;refine Aab ?_;refine BT ?_;refine Ac2 ?_;refine B3 ?_;refine AZ (hix b3) rfl rfl rdZ rfl rfl ?_;rintro _ rfl;refine Aa4 ?_;refine Abp ?_;refine AC ?_
 refine BD (.p 0 (.q 1 (.q 2 (.q 3 (.q 4 (.q 5 (.q 6 (.l 7 .e (.l 8 .b (.q 9 (.q 10 (.q 11 (.l 12 .b .nil))))))))))))) [] rfl (by kernel_rfl) selZ ?_
 refine CD ?_;refine AM ?_;refine Abs ?_;refine Aak ?_;refine A8 ?_
 have hfl:Flat [.agg #[int x.t.k,int x.t.q.src,int x.t.q.dst,int x.t.q.size,int x.t.q.rdy,int x.t.q.dln,int x.t.q.pri,.bool x.t.q.cus,.slice x.p x.t.hops.length x.c,int 1,int 0]] [int x.t.k,int x.t.q.src,int x.t.q.dst,int x.t.q.size,int x.t.q.rdy,int x.t.q.dln,int x.t.q.pri,.bool x.t.q.cus,.slice x.p x.t.hops.length x.c,int 1,int 0]:=Flat.agg (ws:=[int x.t.k,int x.t.q.src,int x.t.q.dst,int x.t.q.size,int x.t.q.rdy,int x.t.q.dln,int x.t.q.pri,.bool x.t.q.cus,.slice x.p x.t.hops.length x.c,int 1,int 0]) Flat.nil
 refine B4 (a_e rfl (CE (cs:=[int x.t.k,int x.t.q.src,int x.t.q.dst,int x.t.q.size,int x.t.q.rdy,int x.t.q.dln,int x.t.q.pri,.bool x.t.q.cus,.slice x.p x.t.hops.length x.c,int 1,int 0]) rfl rfl rfl rfl rfl oneZ hfl rfl) rfl rfl rfl (by rintro _ _ ⟨b,rfl,rfl⟩ w hw; exact hw.tail) ?_)
 rintro _ _ ⟨bn,rfl,rfl⟩
 skip
 refine B4 (a_b rfl (CG (by_:=104) (s:=11) (news:=[int x.t.k,int x.t.q.src,int x.t.q.dst,int x.t.q.size,int x.t.q.rdy,int x.t.q.dln,int x.t.q.pri,.bool x.t.q.cus,.slice x.p x.t.hops.length x.c,int 1,int 0]) rfl rfl rfl rfl rfl rfl rfl hO takeZ (cells_own memZ) rfl oneZ (by omega) (by simp only [maxLen]; omega) (by omega)) rfl rfl rfl (fun _ _ _ w hw=>hw.sel Sel.nil) ?_)
 rintro u1 _ ⟨κ1,hO1,rfl⟩
 obtain ⟨pu,ku,rfl⟩:=hO1.form
 refine Abs ?_;refine AS ?_;refine CN ?_; rintro _ _ ⟨rfl,rfl⟩;refine BE ?_
 skip
 have hlen:(l ++ [x]).length=l.length+1:=by rw [List.length_append]; rfl
 have hO2:OwnS 106 11 (.slice pu (l ++ [x]).length ku) (l ++ [x]).length ((l ++ [x]).flatMap encT) κ1:=by
  rw [hlen,List.flatMap_append];exact hO1
 exact AT (H':=[sng bb (.cells #[.slice pq nq kq,.slice pc nc kc,.slice none 0 0,.slice pu (l.length+1) ku] 97 (0,0)),κ1]) (res0 rfl) rsubZ selZ ⟨rfl,pu,ku,κ1,hO2,by rw [hlen]⟩
end
end Go.Proofs.YtglifndogffmkaaGreat
namespace Go.Proofs.YtglifndogffmkaaGreat
open Go.Eng Go.Step
set_option maxRecDepth 100000
set_option maxHeartbeats 64000000
section
variable {ρ τ σ υ:PH} {pq pc pb ph:Option Addr} {kq kc kb kh:Nat} {qs:List Int} {cs:List Ct} {bs:List Bk} {hs:List Hd} {q:Rq}
theorem barCheck_spec (hT:TbAt ρ τ σ υ pq pc pb ph kq kc kb kh qs cs bs hs) (hK:TOK qs cs bs hs q) :
  Ans Tryz.prog (fv 92) [.agg #[.slice pq qs.length kq,.slice pc cs.length kc,.slice pb bs.length kb,.slice ph hs.length kh],.agg #[int q.src,int q.dst,int q.size,int q.rdy,int q.dln,int q.pri,.bool q.cus]] [ρ,τ,σ,υ] (fun r=>r=int 0):=by
 obtain ⟨hp,hb0,hh⟩:=chkT_ok hK.t
 have hct:=chkTab_spec hT
 rw [hK.t] at hct
 have hcr:=creq_spec (q:=q) hT.hq hT.hc hT.hcap hT.lq hT.lc hp hK.q
 refine spec_in (cap:=[]) Tryz.func92 rfl rfl Tryz.ntmps92 rfl envZ (fun N β=>?_)
 refine Aa ?_;refine BH (BI rfl) rfl rfl rfl ?_;rintro _ _ ⟨b2,rfl,rfl⟩;refine BH (BI rfl) rfl rfl rfl ?_;rintro _ _ ⟨b3,rfl,rfl⟩;refine AQ (ρ:=sng b2 _) takeZ ?_;refine AQ (ρ:=sng b3 _) takeZ ?_
 have ct:=rdB b2 42 [.slice pq qs.length kq,.slice pc cs.length kc,.slice pb bs.length kb,.slice ph hs.length kh]
 have ct0:=rdC ct 0
 have ctp:=rdQ (xs:=[_,_]) ct
 have cr:=rdB b3 28 [int q.src,int q.dst,int q.size,int q.rdy,int q.dln,int q.pri,.bool q.cus]
 refine Adg ?_;refine AZ hct rfl rfl rdZ rfl rfl ?_;rintro _ rfl;refine BO ?_;refine AB ?_;refine Ab7 ?_;refine AK ?_;refine AZ hcr rfl rfl rdZ rfl rfl ?_;rintro _ rfl;refine BO ?_;refine Ab3 ?_;refine Aaq ?_;exact A3 ⟨rfl,rfl⟩
theorem makeBar_spec (hT:TbAt ρ τ σ υ pq pc pb ph kq kc kb kh qs cs bs hs) (hK:TOK qs cs bs hs q) :
  Makes Tryz.prog (fv 31) [.agg #[.slice pq qs.length kq,.slice pc cs.length kc,.slice pb bs.length kb,.slice ph hs.length kh],.agg #[int q.src,int q.dst,int q.size,int q.rdy,int q.dln,int q.pri,.bool q.cus]] [ρ,τ,σ,υ] (fun r χ=>(∃ L1 a,LabR (grOf qs cs bs hs q) L1∧arrR (grOf qs cs bs hs q) L1=some a∧r=.tuple #[.slice none 0 0,int 6])∨(∃ L1 L u,LabR (grOf qs cs bs hs q) L1∧arrR (grOf qs cs bs hs q) L1=none∧LabR (grOf qs cs bs hs q) L∧r=.tuple #[u,int 0]∧OwnS 175 4 u L.length (L.flatMap encL) χ)):=by
 have hck:=barCheck_spec hT hK
 have har:=srchArr_spec hT hK
 have hla:=lab_spec hT hK
 generalize grOf qs cs bs hs q=G at har hla ⊢
 refine spec_in (cap:=[]) Tryz.func31 rfl rfl Tryz.ntmps31 rfl envZ (fun N β=>?_)
 refine Aa ?_;refine BH (BI rfl) rfl rfl rfl ?_;rintro _ _ ⟨b2,rfl,rfl⟩;refine BH (BI rfl) rfl rfl rfl ?_;rintro _ _ ⟨b3,rfl,rfl⟩;refine AQ (ρ:=sng b2 _) takeZ ?_;refine AQ (ρ:=sng b3 _) takeZ ?_
 have ct:=rdB b2 42 [.slice pq qs.length kq,.slice pc cs.length kc,.slice pb bs.length kb,.slice ph hs.length kh]
 have cr:=rdB b3 28 [int q.src,int q.dst,int q.size,int q.rdy,int q.dln,int q.pri,.bool q.cus]
 refine CC ?_;refine Ace ?_;refine Ac ?_;refine AZ hck rfl rfl rdZ rfl rfl ?_;rintro _ rfl;refine Acx ?_;refine Aa6 ?_;refine Ac ?_;refine AZ har rfl rfl rdZ rfl rfl ?_;rintro _ ⟨L1,hL1,⟨a,ha,rfl⟩|⟨ha,rfl⟩⟩
 ·refine AB ?_
  refine Abm ?_;refine Ab ?_;refine Aab ?_;refine CO ?_;refine Ac5 ?_;exact AT (res2 rfl rfl rfl) rsubZ selZ ⟨emp,.inl ⟨L1,a,hL1,ha,rfl⟩,rfl⟩
 ·refine AB ?_
  refine Abm ?_;refine Ab ?_;refine Aab ?_;refine Ad ?_;refine Ac ?_;refine CJ hla rfl rfl rdZ rfl rfl ?_;rintro _ χ ⟨L,u,hL,rfl,hO⟩;refine Abm ?_;refine Ab ?_;exact AT (res2 rfl rfl rfl) rsubZ selZ ⟨χ,.inr ⟨L1,L,u,hL1,ha,hL,rfl,hO⟩,rfl⟩
end
end Go.Proofs.YtglifndogffmkaaGreat
namespace Go.Proofs.YtglifndogffmkaaGreat
open Go.Eng Go.Step
set_option maxRecDepth 100000
set_option maxHeartbeats 64000000
section
variable {ρ τ:PH} {pq pc:Option Addr} {kq kc:Nat} {qs:List Int} {cs:List Ct}
theorem tlReqBad_spec (hq:IntsAt ρ (.slice pq qs.length kq) qs) (hc:CtAt τ (.slice pc cs.length kc) cs) (hcap:cs.length≤kc) (lq:qs.length≤9223372036854775807) (lc:cs.length≤9223372036854775807) (hp:chkPl qs cs=0) (q:Rq) (hbad:¬ okRq qs.length q):Ans Tryz.prog (fv 27) [.agg #[.slice pq qs.length kq,.slice pc cs.length kc],.agg #[int q.src,int q.dst,int q.size,int q.rdy,int q.dln,int q.pri,.bool q.cus]] [ρ,τ] (fun r=>∃ e:Int,e≠0∧r=int e):=by
 have hck:=planCheck_spec ρ τ pq pc kq kc qs cs hq hc hcap lq lc
 rw [hp] at hck;unfold okRq at hbad
 refine spec_in (cap:=[]) Tryz.func27 rfl rfl Tryz.ntmps27 rfl envZ (fun N β=>?_)
 refine Aa ?_;refine BH (BI rfl) rfl rfl rfl ?_;rintro _ _ ⟨b2,rfl,rfl⟩;refine BH (BI rfl) rfl rfl rfl ?_;rintro _ _ ⟨b3,rfl,rfl⟩;refine AQ (ρ:=sng b2 _) takeZ ?_;refine AQ (ρ:=sng b3 _) takeZ ?_
 have p:=rdB b2 25 [.slice pq qs.length kq,.slice pc cs.length kc]
 have p0:=rdC p 0
 have bx28_3:=rdB b3 28 [int q.src,int q.dst,int q.size,int q.rdy,int q.dln,int q.pri,.bool q.cus]
 have r0:=rdC bx28_3 0
 have r1:=rdC bx28_3 1
 have r2:=rdC bx28_3 2
 have r3:=rdC bx28_3 3
 have r4:=rdC bx28_3 4
 have r5:=rdC bx28_3 5
 refine Abx ?_;refine BC ?_;refine Adc ?_;refine Aas ?_;refine AZ hck rfl rfl rdZ rfl rfl ?_;rintro _ rfl
 repeat' (first
  | (refine AB ?_)
  | (refine AD ?_)
  | (refine AF ?_)
  | (refine AG ?_)
  | (refine A2 ?_)
  | (refine AV ?_)
  | (refine BO ?_)
  | (refine CS ?_)
  | (refine AC ?_)
  | (refine AA ?_)
  | (refine AE ?_)
  | (refine AN rfl ?_)
  | (refine AI rfl ?_)
  | (refine AR rfl rfl rfl ?_)
  | (focus ((refine C4 rfl rfl (cmp_eq _ _) rfl rfl (fun h=>?_) (fun h=>?_))))
  | (focus ((refine C4 rfl rfl (cmp_lt _ _) rfl rfl (fun h=>?_) (fun h=>?_))))
  | (focus ((refine C4 rfl rfl (cmp_le _ _) rfl rfl (fun h=>?_) (fun h=>?_))))
  | fail)
 all_goals (first|exact AT (res1 rfl rfl) rsubZ selZ ⟨rfl,_,(by decide),rfl⟩|(exfalso; apply hbad; omega))
theorem tlFull_spec (nb nh kb kh:Nat) (pb ph:Option Addr) (lb:nb≤100000) (lh:nh≤100000):Ans Tryz.prog (fv 35) [.agg #[.slice pq qs.length kq,.slice pc cs.length kc,.slice pb nb kb,.slice ph nh kh]] [] (fun r=>r=.bool (decide (512<nb∨512<nh))):=by
 refine spec_in (cap:=[]) Tryz.func35 rfl rfl Tryz.ntmps35 rfl envZ (fun N β=>?_)
 refine Aa ?_;refine BH (BI rfl) rfl rfl rfl ?_;rintro _ _ ⟨b1,rfl,rfl⟩;refine AQ (ρ:=sng b1 _) takeZ ?_
 have bx77_3:=rdB b1 42 [.slice pq qs.length kq,.slice pc cs.length kc,.slice pb nb kb,.slice ph nh kh]
 have ta:=rdC bx77_3 2
 have tb:=rdC bx77_3 3
 by_cases h1:512<nb
 ·rw [decide_eq_true (.inl h1)]
  refine Abx ?_;refine Adh ?_;refine Ab5 ?_;refine Adj ?_;exact A3 ⟨rfl,rfl⟩
 by_cases h2:512<nh
 ·rw [decide_eq_true (.inr h2)]
  refine Abx ?_;refine Acq ?_;refine Aay ?_;refine Adh ?_;refine Acl ?_;exact A3 ⟨rfl,rfl⟩
 ·rw [decide_eq_false (by omega)]
  refine Abx ?_;refine Acq ?_;refine Aay ?_;refine Acq ?_;refine Acl ?_;exact A3 ⟨rfl,rfl⟩
theorem tlFail_spec (e:Int):Ans Tryz.prog (fv 26) [int e] [] (fun r=>r=.tuple #[.agg #[.slice none 0 0,.slice none 0 0,.slice none 0 0,.slice none 0 0],.agg #[.bool false,int 0,.slice none 0 0,.slice none 0 0,.slice none 0 0],int e]):=by
 refine spec_in (cap:=[]) Tryz.func26 rfl rfl Tryz.ntmps26 rfl envZ (fun N β=>?_)
 refine Aa ?_;refine BH (CH rfl) rfl rfl rfl ?_;rintro _ _ ⟨b2,rfl,rfl⟩;refine BH (CH rfl) rfl rfl rfl ?_;rintro _ _ ⟨b3,rfl,rfl⟩;refine Adm ?_;refine CK (CT (out:=[.slice none 0 0,.slice none 0 0,.slice none 0 0,.slice none 0 0]) rfl rfl rfl rfl rfl) rfl rfl rfl ?_;refine B0 ?_;refine AB ?_;refine AW ?_; rintro _ _ ⟨rfl,rfl⟩;refine AW ?_; rintro _ _ ⟨rfl,rfl⟩;refine Aaa ?_;exact AT (resSSE (b1:=b2) (b2:=b3) (T:=36) (U:=49) (v1:=[.slice none 0 0,.slice none 0 0,.slice none 0 0,.slice none 0 0]) (v2:=[.bool false,int 0,.slice none 0 0,.slice none 0 0,.slice none 0 0]) rfl rfl rfl rfl rfl rfl rfl rfl (cells_own memZ) (cells_own memZ)) rsubZ selZ ⟨rfl,rfl⟩
variable {χ:PH} {Γ:List PH} {pt:Option Addr} {kt:Nat} {L:List TkM}
theorem tlCrowd_spec (hL:SlE encT 11 χ (.slice pt L.length kt) L) (hl:L.length≤4) (hn:∀ (i:Nat) (x:TkM),L[i]?=some x→x.t.k=(i:Int)+1):Ans Tryz.prog (fv 28) [.agg #[.slice pq qs.length kq,.slice pc cs.length kc,.slice none 0 0,.slice pt L.length kt]] [χ] (fun r=>r=.bool false):=by
 obtain ⟨_,_,e,hr⟩:=SlE.val encT_len hL
 simp only [Value.slice.injEq] at e
 obtain ⟨rfl,_,rfl⟩:=e
 refine spec_in (cap:=[]) Tryz.func28 rfl rfl Tryz.ntmps28 rfl envZ (fun N β=>?_)
 refine Aa ?_;refine BH (BI rfl) rfl rfl rfl ?_;rintro _ _ ⟨b1,rfl,rfl⟩;refine AQ (ρ:=sng b1 _) takeZ ?_
 have bx166_3:=rdB b1 36 [.slice pq qs.length kq,.slice pc cs.length kc,.slice none 0 0,.slice pt L.length kt]
 have ga:=rdC bx166_3 3
 by_cases h0:L.length=0
 ·refine AD ?_
  refine Aca ?_;refine BC ?_;refine Abo ?_;refine CM ?_;refine Aal ?_;refine BW ?_;refine Ab5 ?_;refine Aaf ?_;refine Aaf ?_;refine AV ?_;refine Acl ?_;exact A3 ⟨rfl,rfl⟩
 have hx:=List.getElem?_eq_getElem (show L.length-1<L.length by omega)
 have hk:=hn _ _ hx
 obtain ⟨b7,o7,rfl,hrd⟩:=hr _ _ hx
 generalize L[L.length-1]=y at hx hrd hk
 have r0:rdc χ b7 (o7+(L.length-1)*11)=some (int y.t.k):=hrd.get0
 have ek:y.t.k=(L.length:Int):=by omega
 rw [ek] at r0;refine Abx ?_;refine BC ?_;refine Abo ?_;refine CM ?_;refine Aal ?_;refine CS ?_;refine Aay ?_;refine AB ?_;refine B7 ?_;refine BL ?_;refine GC ?_;refine AF ?_;refine CM ?_;refine A2 ?_;refine Acl ?_;exact A3 ⟨rfl,rfl⟩
theorem tlOpen_spec (hL:SlE encT 11 χ (.slice pt L.length kt) L) (hl:L.length≤4) :
  Eng.Spec Tryz.prog (fv 32) [.agg #[.slice pq qs.length kq,.slice pc cs.length kc,.slice none 0 0,.slice pt L.length kt]] [χ] [] (fun r H'=>∃ p k κ,r=.agg #[.slice pq qs.length kq,.slice pc cs.length kc,.slice none 0 0,.slice p L.length k]∧OwnS 106 11 (.slice p L.length k) L.length (L.flatMap encT) κ∧H'=[κ]):=by
 have hcl:=tlCloneT_spec χ _ L hL (by omega)
 refine spec_in (cap:=[]) Tryz.func32 rfl rfl Tryz.ntmps32 rfl envZ (fun N β=>?_)
 refine Aa ?_;refine BH (BI rfl) rfl rfl rfl ?_;rintro _ _ ⟨b1,rfl,rfl⟩;refine BH (CH rfl) rfl rfl rfl ?_;rintro _ _ ⟨b2,rfl,rfl⟩;refine Aca ?_;refine CJ hcl rfl rfl rdZ rfl rfl ?_;rintro v κ hO
 obtain ⟨p,k,rfl⟩:=hO.form
 refine AG ?_;refine BM ?_; rintro _ _ ⟨rfl,rfl⟩;refine AE ?_;refine Aas ?_;refine CK (CT (out:=[.slice pq qs.length kq,.slice pc cs.length kc,.slice none 0 0,.slice p L.length k]) rfl rfl rfl rfl rfl) rfl rfl rfl ?_;refine AW ?_; rintro _ _ ⟨rfl,rfl⟩;refine AE ?_;exact AT (resS1 (b1:=b2) (T:=97) (v1:=[.slice pq qs.length kq,.slice pc cs.length kc,.slice none 0 0,.slice p L.length k]) rfl rfl rfl rfl (cells_own memZ)) rsubZ selZ ⟨p,k,κ,rfl,hO,rfl⟩
end
end Go.Proofs.YtglifndogffmkaaGreat
namespace Go.Proofs.YtglifndogffmkaaGreat
open Go.Eng Go.Step
set_option maxRecDepth 100000
set_option maxHeartbeats 64000000
section
variable {ρ τ:PH} {pq pc:Option Addr} {kq kc:Nat} {qs:List Int} {cs:List Ct} {χ:PH} {Γ:List PH} {pt:Option Addr} {kt:Nat} {L:List TkM}
theorem tlAccept_spec (hq:IntsAt ρ (.slice pq qs.length kq) qs) (hc:CtAt τ (.slice pc cs.length kc) cs) (hcap:cs.length≤kc) (lq:qs.length≤9223372036854775807) (lc:cs.length≤9223372036854775807) (hp:chkPl qs cs=0) (lq6:qs.length≤6) (lc11:cs.length≤11) (hL:LgAt χ Γ (.slice pt L.length kt) L) (hok:LgOK qs cs (L.map (·.t))) (hl3:L.length≤3) (q:Rq) (hpri:q.pri≠2) :
  Makes Tryz.prog (fv 11) [.agg #[.slice pq qs.length kq,.slice pc cs.length kc,.slice none 0 0,.slice pt L.length kt],.agg #[int q.src,int q.dst,int q.size,int q.rdy,int q.dln,int q.pri,.bool q.cus],int 0] (ρ::τ::χ::Γ) (fun r κ=>(∃ (v:List Value) (e:Int),(v.length=5∧∀ u∈v,u.oneCell'=true)∧e≠0∧r=.tuple #[.agg #[.slice none 0 0,.slice none 0 0,.slice none 0 0,.slice none 0 0],.agg v.toArray,int e])∨(∃ v:List Value,(v.length=5∧∀ u∈v,u.oneCell'=true)∧r=.tuple #[.agg #[.slice pq qs.length kq,.slice pc cs.length kc,.slice none 0 0,.slice pt L.length kt],.agg v.toArray,int 0]) ∨
   ∃ (x:TkM) (pt':Option Addr) (kt':Nat) (v:List Value),(v.length=5∧∀ u∈v,u.oneCell'=true)∧r=.tuple #[.agg #[.slice pq qs.length kq,.slice pc cs.length kc,.slice none 0 0,.slice pt' (L ++ [x]).length kt'],.agg v.toArray,int 0]∧(∀ δ,PH.sub χ δ→(∀ γ∈Γ,PH.sub γ δ)→PH.sub κ δ→LgAt δ [δ] (.slice pt' (L ++ [x]).length kt') (L ++ [x]))∧LgOK qs cs ((L ++ [x]).map (·.t))):=by
 have hnum:∀ (i:Nat) (x:TkM),L[i]?=some x→x.t.k=(i:Int)+1:=fun i x hx=>hok.num i x.t (by rw [List.getElem?_map,hx]; rfl)
 have htk:TksOK qs cs L:=fun x hx=>hok.tk _ (List.mem_map.2 ⟨x,hx,rfl⟩)
 have hck:=tlCheck_spec hq hc hcap lq lc hp hL hok
 have hta:=tlTables_spec hq hc hcap lq lc hp hL (by omega) htk
 have hcw:=tlCrowd_spec (pq:=pq) (pc:=pc) (kq:=kq) (kc:=kc) (qs:=qs) (cs:=cs) hL.tk (by omega) hnum
 have hop:=tlOpen_spec (pq:=pq) (pc:=pc) (kq:=kq) (kc:=kc) (qs:=qs) (cs:=cs) hL.tk (by omega)
 refine spec_in (cap:=[]) Tryz.func11 rfl rfl Tryz.ntmps11 rfl envZ (fun N β=>?_)
 refine Aa ?_;refine BH (BI rfl) rfl rfl rfl ?_;rintro _ _ ⟨b3,rfl,rfl⟩;refine BH (BI rfl) rfl rfl rfl ?_;rintro _ _ ⟨b4,rfl,rfl⟩;refine BH (CH rfl) rfl rfl rfl ?_;rintro _ _ ⟨b6,rfl,rfl⟩;refine BH (CH rfl) rfl rfl rfl ?_;rintro _ _ ⟨b7,rfl,rfl⟩;refine AQ (ρ:=sng b3 _) takeZ ?_;refine AQ (ρ:=sng b4 _) takeZ ?_
 have cg:=rdB b3 36 [.slice pq qs.length kq,.slice pc cs.length kc,.slice none 0 0,.slice pt L.length kt]
 have cgp:=rdQ (xs:=[_,_]) cg
 have cr:=rdB b4 28 [int q.src,int q.dst,int q.size,int q.rdy,int q.dln,int q.pri,.bool q.cus]
 have cr3:=rdC cr 3
 have cr5:=rdC cr 5
 refine Adm ?_;refine Adg ?_
 refine AZ hck rfl rfl (fun z hz=>.inl (by simp only [List.mem_cons] at hz ⊢; rcases hz with h|h|h|h <;> simp [h])) rfl rfl ?_
 rintro _ rfl
 by_cases hrq:okRq qs.length q
 rotate_left
 ·refine BO ?_
  refine Aa6 ?_;refine Acn ?_;refine AK ?_;refine AZ (tlReqBad_spec hq hc hcap lq lc hp q hrq) rfl rfl rdZ rfl rfl ?_;rintro _ ⟨e,he,rfl⟩;refine Abo ?_;refine C3 ?_;refine Aah ?_;refine Aag ?_;refine AZ (tlFail_spec e) rfl rfl rdZ rfl rfl ?_;rintro _ rfl;refine CC ?_;refine Abm ?_;refine AX ?_;refine AW ?_; rintro _ _ ⟨rfl,rfl⟩;refine AW ?_; rintro _ _ ⟨rfl,rfl⟩;refine Aaa ?_;exact AT (resSSE (b1:=b6) (b2:=b7) (T:=36) (U:=49) (v1:=[.slice none 0 0,.slice none 0 0,.slice none 0 0,.slice none 0 0]) (v2:=[.bool false,int 0,.slice none 0 0,.slice none 0 0,.slice none 0 0]) rfl rfl rfl rfl rfl rfl rfl rfl (cells_own memZ) (cells_own memZ)) rsubZ selZ ⟨emp,.inl ⟨_,e,⟨rfl,oneZ⟩,he,rfl⟩,rfl⟩
 have hrdy:=hrq.2.2.1.2.2.1
 refine BO ?_;refine Aa6 ?_;refine Acn ?_;refine AK ?_;refine AZ (creq_spec hq hc hcap lq lc hp hrq) rfl rfl rdZ rfl rfl ?_;rintro _ rfl;refine Acx ?_;refine Ab6 ?_;refine A7 ?_;refine Aal ?_;refine Aae ?_;refine BW ?_;refine AV ?_;refine Aa6 ?_;refine Aas ?_;refine AZ hcw rfl rfl rdZ rfl rfl ?_;rintro _ rfl;refine Aai ?_;refine Aas ?_
 refine BA hta rfl rfl takesZ (fun z hz=>.inl (by simp only [List.mem_cons] at hz ⊢; rcases hz with h|h|h <;> simp [h])) rfl rfl ?_
 rintro _ _ ⟨bs,hs,pb,ph,kb,kh,σ,υ,rfl,p1,s1,p2,s2,o1,o2,rfl⟩
 have hct:=hok.tab p1 s1 p2 s2
 have hTb:TbAt ρ τ σ υ pq pc pb ph kq kc kb kh qs cs bs hs:=⟨hq,hc,hcap,lq,lc,o1.at,by have:=p1.length_eq; have:=hok.nb; omega,o2.at,by have:=p2.length_eq; have:=hok.nh; omega⟩
 have hK:TOK qs cs bs hs q:=⟨hct,hrq,lq6,lc11⟩
 simp only [List.cons_append,List.nil_append];refine AQ (ρ:=σ) takeZ ?_;refine AQ (ρ:=υ) takeZ ?_;refine A4 ?_; rintro _ _ ⟨b,rfl,rfl⟩;refine AW ?_; rintro _ _ ⟨rfl,rfl⟩;refine AE ?_;refine Ac ?_
 revert b; intro b11
 refine AQ (ρ:=sng b11 _) takeZ ?_
 have ct:=rdB b11 42 [.slice pq qs.length kq,.slice pc cs.length kc,.slice pb bs.length kb,.slice ph hs.length kh]
 skip
 refine CJ (tlEarl_spec hTb hK) rfl rfl rdZ rfl rfl ?_;rintro _ κh (⟨l,u,hF,rfl,hOh⟩|⟨e,he,rfl⟩)
 rotate_left
 ·refine CC ?_
  refine Abv ?_;refine Ace ?_;refine Aan ?_;refine CA ?_;refine Ab6 ?_;refine C3 ?_;refine Aah ?_;refine Ac ?_;refine CJ (makeBar_spec hTb hK) rfl rfl rdZ rfl rfl ?_;rintro _ κb (⟨L1,a1,_,_,rfl⟩|⟨L1,L2,u2,_,_,_,rfl,hOb⟩)
  ·refine AB ?_
   refine Abm ?_;refine Ab ?_;refine Aas ?_;refine AB ?_;refine B0 ?_;refine AW ?_; rintro _ _ ⟨rfl,rfl⟩;refine AW ?_; rintro _ _ ⟨rfl,rfl⟩;refine Aaa ?_;exact AT (resSSE (b1:=b6) (b2:=b7) (T:=36) (U:=49) (v1:=[.slice pq qs.length kq,.slice pc cs.length kc,.slice none 0 0,.slice pt L.length kt]) (v2:=[.bool false,int 0,.slice none 0 0,.slice none 0 0,.slice none 0 0]) rfl rfl rfl rfl rfl rfl rfl rfl (cells_own memZ) (cells_own memZ)) rsubZ selZ ⟨emp,.inr (.inl ⟨_,⟨rfl,oneZ⟩,rfl⟩),rfl⟩
  ·obtain ⟨p9,k9,rfl⟩:=hOb.form
   refine Abv ?_;refine Ab ?_;refine Aas ?_;refine AB ?_;refine B0 ?_;refine AW ?_; rintro _ _ ⟨rfl,rfl⟩;refine AW ?_; rintro _ _ ⟨rfl,rfl⟩;refine Aaa ?_;exact AT (resSSE (b1:=b6) (b2:=b7) (T:=36) (U:=49) (v1:=[.slice pq qs.length kq,.slice pc cs.length kc,.slice none 0 0,.slice pt L.length kt]) (v2:=[.bool false,int 0,.slice none 0 0,.slice none 0 0,.slice p9 L2.length k9]) rfl rfl rfl rfl rfl rfl rfl rfl (cells_own memZ) (cells_own memZ)) rsubZ selZ ⟨emp,.inr (.inl ⟨_,⟨rfl,oneZ⟩,rfl⟩),rfl⟩
 obtain ⟨pu,ku,rfl⟩:=hOh.form
 refine Abv ?_;refine Ace ?_;refine Aan ?_;refine CA ?_;refine Ab6 ?_;refine BO ?_;refine Aai ?_;refine Aas ?_;refine BA hop rfl rfl takesZ rdZ rfl rfl ?_;rintro _ _ ⟨p8,k8,κ8,rfl,hO8,rfl⟩;simp only [List.cons_append,List.nil_append];refine A4 ?_; rintro _ _ ⟨b,rfl,rfl⟩;refine AW ?_; rintro _ _ ⟨rfl,rfl⟩;refine AE ?_;refine Aa ?_
 revert b; intro b18
 refine AZ (tlNext_spec (pq:=pq) (pc:=pc) (nq:=qs.length) (nc:=cs.length) (kq:=kq) (kc:=kc) b18 κ8 L hO8.at (by omega) hnum) rfl rfl rdZ rfl rfl ?_
 rintro _ rfl
 have hset:=tlSet_spec (pq:=pq) (pc:=pc) (nq:=qs.length) (nc:=cs.length) (kq:=kq) (kc:=kc) b18 κ8 L hO8 (by omega) (⟨⟨(L.length:Int)+1,q,l⟩,pu,ku⟩:TkM) (fun y hy=>by
  obtain ⟨i,hi,rfl⟩:=List.getElem_of_mem hy
  have:=hnum i _ (List.getElem?_eq_getElem hi)
  dsimp only; omega)
 dsimp only at hset
 refine Abo ?_;refine AK ?_;refine AB ?_;refine CK (CT (out:=[int ((L.length:Int)+1),int q.src,int q.dst,int q.size,int q.rdy,int q.dln,int q.pri,.bool q.cus,.slice pu l.length ku,int 1,int 0]) rfl rfl rfl rfl rfl) rfl rfl rfl ?_;refine BA hset rfl rfl takesZ rdZ rfl rfl ?_;rintro _ _ ⟨rfl,pt2,kt2,κ2,hO2,rfl⟩;simp only [List.cons_append,List.nil_append];clear hset
 generalize hxe:(⟨⟨(L.length:Int)+1,q,l⟩,pu,ku⟩:TkM)=x at hO2 ⊢
 have hTl:(L.map (·.t)).length=L.length:=List.length_map _
 have hTx:(L ++ [x]).map (·.t)=L.map (·.t) ++ [(⟨((L.map (·.t)).length:Int)+1,q,l⟩:Tk)]:=by
  rw [List.map_append,hTl,← hxe]; rfl
 have hlx:(L ++ [x]).length=L.length+1:=by rw [List.length_append]; rfl
 have htkx:TksOK qs cs (L ++ [x]):=fun y hy=>by
  rcases List.mem_append.1 hy with hy|hy
  ·exact htk y hy
  ·rw [List.mem_singleton] at hy; subst hy; rw [← hxe]; exact ⟨hrq,hF.rou hK⟩
 have hL2:LgAt κ2 (χ::κh::Γ) (.slice pt2 (L ++ [x]).length kt2) (L ++ [x]):=⟨hO2.at,fun y hy=>by
  rcases List.mem_append.1 hy with hy|hy
  ·obtain ⟨γ,h1,h2⟩:=hL.hp y hy
   exact ⟨γ,by simp [h1],h2⟩
  ·rw [List.mem_singleton] at hy; subst hy
   exact ⟨κh,by simp,by rw [← hxe]; exact hOh.at⟩⟩
 have hta2:=tlTables_spec hq hc hcap lq lc hp hL2 (by omega) htkx
 refine Aam ?_;refine Acn ?_
 refine BA hta2 rfl rfl takesZ (fun z hz=>by
  simp only [List.mem_cons] at hz
  rcases hz with h|h|h|h|h
  ·exact .inl (by simp [h])
  ·exact .inr (by simp [h])
  ·exact .inl (by simp [h])
  ·exact .inr (by simp [h])
  ·exact .inl (by simp [h])) rfl rfl ?_
 rintro _ _ ⟨bs',hs',pb',ph',kb',kh',σ',υ',rfl,p1',s1',p2',s2',o1',o2',rfl⟩;simp only [List.cons_append,List.nil_append]
 have hx1000:∀ y∈(L ++ [x]).map (·.t),y.hops.length≤1000:=fun y hy=>by
  obtain ⟨z,hz,rfl⟩:=List.mem_map.1 hy
  exact (htkx z hz).2.len
 have hmm:((L ++ [x]).map (·.t)).length=L.length+1:=by rw [List.length_map,hlx]
 have q1:=rawB_len hx1000
 have q2:=rawH_len cs hx1000
 have l1':=p1'.length_eq
 have l2':=p2'.length_eq
 rw [hmm] at q1 q2
 refine AZ (tlFull_spec (pq:=pq) (pc:=pc) (kq:=kq) (kc:=kc) (qs:=qs) (cs:=cs) bs'.length hs'.length kb' kh' pb' ph' (by omega) (by omega)) rfl rfl rdZ rfl rfl ?_
 rintro _ rfl
 by_cases hfu:512<bs'.length∨512<hs'.length
 ·rw [decide_eq_true hfu]
  refine Aah ?_;refine Aab ?_;refine AZ (tlFail_spec 4) rfl rfl rdZ rfl rfl ?_;rintro _ rfl;refine CC ?_;refine Abm ?_;refine AX ?_;refine AW ?_; rintro _ _ ⟨rfl,rfl⟩;refine AW ?_; rintro _ _ ⟨rfl,rfl⟩;refine Aaa ?_
  exact AT (resSSE (b1:=b6) (b2:=b7) (T:=36) (U:=49) (v1:=[.slice none 0 0,.slice none 0 0,.slice none 0 0,.slice none 0 0]) (v2:=[.bool false,int 0,.slice none 0 0,.slice none 0 0,.slice none 0 0]) rfl rfl rfl rfl rfl rfl rfl rfl (cells_own memZ) (cells_own memZ)) rsubZ selZ ⟨emp,.inl ⟨_,4,⟨rfl,oneZ⟩,by decide,rfl⟩,rfl⟩
 rw [decide_eq_false hfu]
 have hfin:LgOK qs cs ((L ++ [x]).map (·.t)):=by
  rw [hTx] at l1' l2' ⊢
  exact lg_step hok (by rw [hTl]; exact hl3) hK p1 p2 hF (by omega) (by omega)
 refine Aai ?_;refine Acn ?_;refine AB ?_;refine B0 ?_;refine AW ?_; rintro _ _ ⟨rfl,rfl⟩;refine AW ?_; rintro _ _ ⟨rfl,rfl⟩;refine Aaa ?_
 refine DM (ρ:=κ2) (σ:=κh) takeZ takeZ (fun δ1 d1 d2=>?_)
 exact AT (resSSE (b1:=b6) (b2:=b7) (T:=36) (U:=49) (v1:=[.slice pq qs.length kq,.slice pc cs.length kc,.slice none 0 0,.slice pt2 (L ++ [x]).length kt2]) (v2:=[.bool true,int ((L.length:Int)+1),.slice none 0 0,.slice none 0 0,.slice none 0 0]) rfl rfl rfl rfl rfl rfl rfl rfl (cells_own memZ) (cells_own memZ)) rsubZ selZ ⟨δ1,.inr (.inr ⟨x,pt2,kt2,_,⟨rfl,oneZ⟩,rfl,fun δ h1 h2 h3=>hL2.mono (d1.trans h3) (fun γ hγ=>by
  simp only [List.mem_cons] at hγ
  rcases hγ with h|h|h
  ·rw [h]; exact h1
  ·rw [h]; exact d2.trans h3
  ·exact h2 γ h),hfin⟩),rfl⟩
end
end Go.Proofs.YtglifndogffmkaaGreat
namespace Go.Proofs.YtglifndogffmkaaGreat
open Go.Eng Go.Step
set_option maxRecDepth 100000
set_option maxHeartbeats 64000000
theorem greatPlanp_spec (pq pc:Option Addr) (kq kc nq nc:Nat):Ans Tryz.prog (fv 4) [.agg #[.slice pq nq kq,.slice pc nc kc]] [] (fun r=>r=.bool (decide (6<nq∨10<nc))):=by
 refine spec_in (cap:=[]) Tryz.func4 rfl rfl Tryz.ntmps4 rfl envZ (fun N β=>?_)
 refine Aa ?_;refine BH (BI rfl) rfl rfl rfl ?_;rintro _ _ ⟨b1,rfl,rfl⟩;refine AQ (ρ:=sng b1 _) takeZ ?_
 have c:=rdB b1 25 [.slice pq nq kq,.slice pc nc kc]
 have c0:=rdC c 0
 have c1:=rdC c 1
 by_cases h1:6<nq
 ·rw [decide_eq_true (.inl h1)]
  refine Abx ?_;refine Adh ?_;refine Ab5 ?_;refine Adj ?_;exact A3 ⟨rfl,rfl⟩
 by_cases h2:10<nc
 ·rw [decide_eq_true (.inr h2)]
  refine Abx ?_;refine Acq ?_;refine Aay ?_;refine Adh ?_;refine Acl ?_;exact A3 ⟨rfl,rfl⟩
 rw [decide_eq_false (by omega)]
 refine Abx ?_;refine Acq ?_;refine Aay ?_;refine Acq ?_;refine Acl ?_;exact A3 ⟨rfl,rfl⟩
end Go.Proofs.YtglifndogffmkaaGreat
namespace Go.Step
def LdI (qs:List Int) (cs:List Ct) (q:Rq) (T:List Tk) (last:Int) (ref:Bool):Prop:=
  ∀ (bs:List Bk) (hs:List Hd) (L:List Lb),bs.Perm (rawB T)→BkW bs→hs.Perm (rawH cs T)→SortH hs→LabR (grOf qs cs bs hs q) L→∀ a,arrR (grOf qs cs bs hs q) L=some a→ref=false∧last≤a
theorem arr_ge0 {G:Gr} (hg:GOK G) {L:List Lb} (hL:LabR G L) {a:Int} (h:arrR G L=some a):0≤a∧a≤1099511627776:=by
  obtain ⟨x,hx,m,hm,hn,rfl⟩:=arr_some h
  have h1:=mvs_later hg hm
  have h2:=fine_bd hg (rch_fine hg (hL.rch x hx))
  omega
theorem LdI.zero {qs:List Int} {cs:List Ct} {q:Rq} {T:List Tk} (hok:LgOK qs cs T) (hq:okRq qs.length q) (lq:qs.length≤6) (lc:cs.length≤11):LdI qs cs q T 0 false:=fun bs hs L p1 s1 p2 s2 hL a ha =>
  ⟨rfl,(arr_ge0 (grOf_ok ⟨hok.tab p1 s1 p2 s2,hq,lq,lc⟩) hL ha).1⟩
theorem LdI.next {qs:List Int} {cs:List Ct} {q:Rq} {T X:List Tk} {last:Int} {ref:Bool} (h:LdI qs cs q T last ref) (hok:LgOK qs cs T) (hok2:LgOK qs cs (T ++ X)) (hq:okRq qs.length q) (lq:qs.length≤6) (lc:cs.length≤11)
    {bs:List Bk} {hs:List Hd} {L:List Lb} (p1:bs.Perm (rawB T)) (s1:BkW bs) (p2:hs.Perm (rawH cs T)) (s2:SortH hs) (hL:LabR (grOf qs cs bs hs q) L) :
    LdI qs cs q (T ++ X) (max last ((arrR (grOf qs cs bs hs q) L).getD 0)) (ref || (arrR (grOf qs cs bs hs q) L).isNone):=fun bs' hs' L' p1' s1' p2' s2' hL' a' ha'=>by
  have hK:TOK qs cs bs hs q:=⟨hok.tab p1 s1 p2 s2,hq,lq,lc⟩
  obtain ⟨a,e1,e2⟩:=arr_load (grOf_ok hK) (gaps_asc hK) (lg_load hok2 hok p1 s1 p2 s2 p1' s1' p2' s2' q) hL hL' ha'
  obtain ⟨h1,h2⟩:=h bs hs L p1 s1 p2 s2 hL a e1
  rw [e1,h1];refine ⟨rfl,?_⟩;simp only [Option.getD_some];omega
end Go.Step
