/- Texts of this proof, one after the other; no conditions. -/
import Derived.Test.YtphehihohghfoaaGreatWB9
import Derived.Test.YtphehihohghfoaaGreatWB3
import Derived.Test.YtphehihohghfoaaGreatWB8
import Derived.Test.YtphehihohghfoaaGreatWB2
import Derived.Test.YtphehihohghfoaaGreatWB7
import Derived.Test.YtphehihohghfoaaGreatWB5
import Derived.Test.YtphehihohghfoaaGreatWB1
import Derived.Test.YtphehihohghfoaaGreatWB6
set_option linter.all false
/- Sets combined. -/
namespace Go.Proofs.YtphehihohghfoaaGreat
open Go.Eng Go.Step
set_option maxRecDepth 100000
set_option maxHeartbeats 4000000

theorem points_spec (v u:Value) (hv:v.oneCell' = true) (hu:u.oneCell' = true) :
  Eng.Spec Tryz.prog (fv 133) [v,u] [] [] (fun r H'=>∃ b1 b2,r = .func (.func 149) #[] #[.pointer (some ⟨b1,0,none⟩),.pointer (some ⟨b2,0,none⟩)] ∧ H' = [sng b2 (.cells #[u] 91 (0,0)),sng b1 (.cells #[v] 91 (0,0))]):=by
 refine spec_in (cap:=[]) Tryz.func133 rfl rfl Tryz.ntmps133 rfl envZ (fun N β=>?_)
 refine Aa ?_;refine BH (CX rfl hv) rfl rfl rfl ?_;rintro _ _ ⟨b1,rfl,rfl⟩;refine BH (CX rfl hu) rfl rfl rfl ?_;rintro _ _ ⟨b2,rfl,rfl⟩;refine Aab ?_;refine Aa ?_;refine BW ?_;refine Aab ?_;exact AI (res1 rfl rfl) rsubZ selZ ⟨b1,b2,rfl,rfl⟩
set_option maxHeartbeats 32000000 in
theorem ivCombine_spec (ρ τ:PH) (va vb:Value) (gf:FuncId) (a b:Iv) (f:Bool → Bool → Bool) (ha:SpAt ρ va a) (hb:SpAt τ vb b) (h0a:chkI a = 0) (h0b:chkI b = 0) (hlen:a.length + b.length ≤ 1000) (hf:f false false = false)
  (hfn:∀ x y,Ans Tryz.prog (.func (.func gf) #[] #[]) [.bool x,.bool y] [] (fun r=>r = .bool (f x y))) :
  Makes Tryz.prog (fv 99) [va,vb,.func (.func gf) #[] #[]] [ρ,τ] (fun r σ=>∃ u,r = .tuple #[u,int 0] ∧ OwnS 93 2 u (combI f a b).length ((combI f a b).flatMap encS) σ):=by
 have hca:=ivCheck_spec ρ va a ha (by omega)
 have hcb:=ivCheck_spec τ vb b hb (by omega)
 rw [h0a] at hca;rw [h0b] at hcb
 have hpts:=fun b1 b2=>points_iter ρ τ va vb a b b1 b2 ha hb (by omega) (by omega)
 have hcl:=(combI_ok hf (chkI_norm h0a).2.1 (chkI_norm h0b).2.1).2.2
 have hml:=mrg_len _ (tog a) false (tog b) false (Nat.le_refl _)
 rw [tog_len,tog_len] at hml
 obtain ⟨qa,ca,rfl,_⟩:=ha.val encS_len
 obtain ⟨qb,cb,rfl,_⟩:=hb.val encS_len
 refine spec_in (cap:=[]) Tryz.func99 rfl rfl Tryz.ntmps99 rfl envZ (fun N β=>?_)
 refine BX ?_;refine Aa ?_;refine EB ?_; rintro _ _ ⟨b,rfl,rfl⟩;refine Aan ?_;refine Aam ?_
 revert b; intro b5
 refine AR (ρ:=sng b5 _) takeZ ?_
 have g5:rdc (sng b5 (.cells #[.func (.func gf) #[] #[]] 183 (0,0))) b5 0 = some (.func (.func gf) #[] #[]):=by rw [rdc_sng]; rfl
 refine A2 hca rfl rfl rdZ rfl rfl ?_;rintro _ rfl;refine BF ?_;refine Aaz ?_;refine A2 hcb rfl rfl rdZ rfl rfl ?_;rintro _ rfl;refine BF ?_;refine Abe ?_;refine Aa ?_;refine BR ?_; rintro _ _ ⟨b,rfl,rfl⟩;refine AE ?_;refine Aa ?_;refine BR ?_; rintro _ _ ⟨b,rfl,rfl⟩;refine BD ?_; rintro _ _ ⟨rfl,rfl⟩;refine Aaj ?_;refine Abp ?_
 revert b; intro b9
 revert b; intro b8
 refine BE (points_spec (.slice qa a.length ca) (.slice qb b.length cb) rfl rfl) rfl rfl Takes.nil (fun τ hτ=>by simp at hτ) rfl rfl ?_
 rintro _ _ ⟨b1,b2,rfl,rfl⟩;refine AR (ρ:=sng b1 _) takeZ ?_;refine AR (ρ:=sng b2 _) takeZ ?_;refine AE ?_;refine AP ?_
 refine CW (gf:=149) (cap:=[.pointer (some ⟨b1,0,none⟩),.pointer (some ⟨b2,0,none⟩)]) (ps:=[24,25]) (X:=Value × Bool × PH) rfl Tryz.func149 rfl rfl
  (hpts b1 b2) ?_
  (fun i x=>x.2.1 = oddB (mcomb f ((mrg (tog a) false (tog b) false).take i) []).length ∧ OwnS 93 2 x.1 (spans (mcomb f ((mrg (tog a) false (tog b) false).take i) [])).length ((spans (mcomb f ((mrg (tog a) false (tog b) false).take i) [])).flatMap encS) x.2.2)
  (fun x=>[sng b8 (.cells #[x.1] 91 (0,0)),sng b9 (.cells #[.bool x.2.1] 4 (0,0)),x.2.2]) (fun _ _=>False) (.slice none 0 0,false,emp) rfl takesZ ⟨rfl,OwnS.nil _ _⟩ ?_ ?_ ?_
 ·intro σ' hσ
  simp only [List.mem_cons,List.not_mem_nil,or_false] at hσ ⊢
  rcases hσ with h | h | h | h <;> simp [h]
 ·rintro lo r i ⟨u,ins,σ⟩ vs hvs ⟨hins,hO⟩ hps has hbd hst hpe hfr
  obtain ⟨st,pe,fnn,tm,prm,asg,bdy,df⟩:=r
  simp only at hps has hbd hst hpe hfr;subst hps has hbd hst hpe;rw [List.getElem?_map] at hvs
  obtain ⟨⟨t,x,y⟩,hc,rfl⟩:=Option.map_eq_some_iff.1 hvs
  have hnx:=mcomb_next f hc []
  have hOl:=mcomb_len f ((mrg (tog a) false (tog b) false).take i) []
  have hti:((mrg (tog a) false (tog b) false).take i).length ≤ (mrg (tog a) false (tog b) false).length:=by rw [List.length_take]; omega
  dsimp only at hins hO
  have hsl:=spans_len (mcomb f ((mrg (tog a) false (tog b) false).take i) [])
  simp only [hnx]
  generalize mcomb f ((mrg (tog a) false (tog b) false).take i) [] = O at hins hO hOl hsl
  simp only [List.length_nil] at hOl
  have hone:∀ z n (xs:List Value) (χ:PH),OwnS 93 2 z n xs χ → z.oneCell' = true:=fun z n xs χ h=>by obtain ⟨_,_,rfl⟩:=h.form; rfl
  have hu1:=hone _ _ _ _ hO
  have hfxy:=hfn x y
  have hm1:mcomb1 f O (t,x,y) = if f x y = oddB O.length then O else O ++ [t]:=rfl
  refine yield_spec hfr rfl (by intro p hp; simp at hp; omega) putiZ (fun N' β'=>?_)
  dsimp only
  refine Aal ?_;refine AA ?_;refine AX ?_; rintro _ _ ⟨b,rfl,rfl⟩;refine AV ?_; rintro _ _ ⟨rfl,rfl⟩;refine Aee ?_;refine CV takeZ rfl ?_
  revert b; intro bx
  refine AP ?_;refine Abd ?_
  focus ((refine CD (GT rfl rfl rfl rfl (by decide)) rfl rfl rfl ?_))
  refine AF ?_
  focus ((refine CD (GU rfl rfl rfl rfl (by decide)) rfl rfl rfl ?_))
  refine AF ?_;refine A2 hfxy rfl rfl rdZ rfl rfl ?_;rintro _ rfl
  cases hfv:f x y with
  | true =>
   cases ins with
   | true =>
    rw [hfv,← hins,if_pos rfl] at hm1;refine Aab ?_;refine Aau ?_;refine Abp ?_;refine AF ?_;refine A9 ?_;refine Ab3 ?_;refine AM rfl ?_;refine Aad ?_;refine A9 ?_;refine AB ?_;refine AH rfl rfl rfl ?_;refine Abz ?_;refine Aaf ?_;refine Acg ?_;refine BD ?_; rintro _ _ ⟨rfl,rfl⟩;refine Aeb ?_
    exact BP takeZ rsubZ selZ ⟨(u,true,σ),.inl ⟨rfl,⟨by rw [hm1]; exact hins,by rw [hm1]; exact hO⟩,rfl⟩⟩
   | false =>
    rw [hfv,← hins,if_neg (by simp)] at hm1
    have hsp:=spans_even t hins.symm
    refine Aab ?_;refine Aau ?_;refine Abp ?_;refine AF ?_;refine A9 ?_;refine Ab3 ?_;refine AN rfl ?_;refine AA ?_;refine Aca ?_;refine BO ?_;refine BI ?_; rintro _ _ ⟨b,rfl,rfl⟩
    refine BH (B5 (by_:=16) (s:=2) (news:=[int t,int 0]) rfl rfl rfl rfl rfl rfl rfl hO takeZ (cells_own memZ) rfl (by (repeat (first | exact (fun v hv=>absurd hv List.not_mem_nil) | (refine List.forall_mem_cons.2 ⟨?_,?_⟩; (focus (first | exact rfl | assumption))))); first | done | fail) (by omega) (by simp only [maxLen]; omega) (by omega)) rfl rfl rfl ?_
    rintro u1 _ ⟨σ1,hO1,rfl⟩
    have hu2:=hone _ _ _ _ hO1
    refine BD ?_; rintro _ _ ⟨rfl,rfl⟩;refine AE ?_;refine Acg ?_;refine BD ?_; rintro _ _ ⟨rfl,rfl⟩;refine Aeb ?_;refine BP takeZ rsubZ selZ ⟨(u1,true,σ1),.inl ⟨rfl,⟨?_,?_⟩,rfl⟩⟩
    ·dsimp only
     rw [hm1,List.length_append,List.length_singleton,oddB_succ,← hins]; rfl
    ·dsimp only
     rw [hm1,hsp,List.length_append,List.flatMap_append];exact hO1
  | false =>
   cases ins with
   | false =>
    rw [hfv,← hins,if_pos rfl] at hm1;refine Aab ?_;refine Aau ?_;refine Aad ?_;refine Aaw ?_;refine Abz ?_;refine AM rfl ?_;refine Aad ?_;refine A9 ?_;refine AB ?_;refine AF ?_;refine Ab3 ?_;refine Aaf ?_;refine Acg ?_;refine BD ?_; rintro _ _ ⟨rfl,rfl⟩;refine Aeb ?_
    exact BP takeZ rsubZ selZ ⟨(u,false,σ),.inl ⟨rfl,⟨by rw [hm1]; exact hins,by rw [hm1]; exact hO⟩,rfl⟩⟩
   | true =>
    rw [hfv,← hins,if_neg (by simp)] at hm1
    obtain ⟨l,c,e1,e2⟩:=spans_odd t hins.symm
    rw [e1] at hO hsl
    have hll:(l ++ [(c,(0:Int))]).length = l.length + 1:=by simp
    obtain ⟨bu,cu,rfl⟩:=hO.formP (by omega)
    have hget:(l ++ [(c,(0:Int))])[(l ++ [(c,(0:Int))]).length - 1]? = some (c,0):=by simp
    refine Aab ?_;refine Aau ?_;refine Aad ?_;refine Aaw ?_;refine Abz ?_;refine AM rfl ?_;refine Aad ?_;refine A9 ?_;refine AB ?_;refine AF ?_;refine Ab3 ?_;refine AN rfl ?_;refine AA ?_;refine AF ?_;refine AF ?_;refine AW ?_;refine DI ?_;refine AB ?_;refine BB ?_;refine DU ?_
    refine CE (EZ encS_len (s:=2) ((l ++ [(c,(0:Int))]).length - 1) 1 (c,t) hO rfl (by simp; rfl) (by decide) hget rfl rfl rfl rfl takeZ) rfl rfl ?_
    rintro _ _ ⟨rfl,σ1,hO1,rfl⟩;refine AE ?_;refine Acg ?_;refine BD ?_; rintro _ _ ⟨rfl,rfl⟩;refine Aeb ?_;refine BP takeZ rsubZ selZ ⟨(.slice (some ⟨bu,0,none⟩) (l ++ [(c,(0:Int))]).length cu,false,σ1),.inl ⟨rfl,⟨?_,?_⟩,rfl⟩⟩
    ·dsimp only
     rw [hm1,List.length_append,List.length_singleton,oddB_succ,← hins]; rfl
    ·dsimp only
     rw [hm1,e2]
     have es:(l ++ [(c,(0:Int))]).set ((l ++ [(c,(0:Int))]).length - 1) (c,t) = l ++ [(c,t)]:=by simp
     rw [es] at hO1
     simpa using hO1
 ·rintro b2' ⟨u,ins,σ⟩ ⟨hins,hO⟩
  rw [List.length_map,List.take_length] at hins hO
  dsimp only at hins hO
  have hO2:OwnS 93 2 u (combI f a b).length ((combI f a b).flatMap encS) σ:=hO
  obtain ⟨p,c,rfl⟩:=hO2.form
  clear hO
  generalize combI f a b = out at hO2 hcl
  refine A3 ?_;refine AC ?_;refine Abd ?_;refine Adw ?_;refine Aai ?_;refine Abd ?_;refine Aan ?_;exact D5 (Marks.cons .here .nil) (res2 rfl rfl rfl) rsubZ selZ ⟨σ,⟨_,rfl,hO2⟩,rfl⟩
 ·rintro _ _ _ h; exact h.elim
end Go.Proofs.YtphehihohghfoaaGreat
/- Cuts of sets of vertices. -/
namespace Go.Proofs.YtphehihohghfoaaGreat
open Go.Eng Go.Step
set_option maxRecDepth 100000
set_option maxHeartbeats 4000000

def rowsQ (L:List Sq):List Value:=L.map (fun x=>.slice x.1.1 x.2.length x.1.2)
theorem rowsQ_flat:∀ L:List Sq,L.flatMap encQ = rowsQ L
 | []=>rfl
 | x :: L=>by
  rw [List.flatMap_cons,rowsQ_flat L]
  rfl
theorem rowsQ_len (L:List Sq):(rowsQ L).length = L.length:=List.length_map _
theorem rowsQ_set (L:List Sq) (k:Nat) (z:Sq):(rowsQ L).toArray.setIfInBounds k (.slice z.1.1 z.2.length z.1.2) = (rowsQ (L.set k z)).toArray:=by
 apply Array.toList_inj.1
 rw [Array.toList_setIfInBounds];unfold rowsQ;rw [List.map_set]
theorem rowsQ_rep (n:Nat):List.replicate n (Value.slice none 0 0) = rowsQ (List.replicate n ((none,0),[])):=by
 unfold rowsQ;rw [List.map_replicate]
 rfl
theorem exOr_spec (x y:Bool):Ans Tryz.prog (fv 100) [.bool x,.bool y] [] (fun r=>r = .bool (x || y)):=by
 refine spec_in (cap:=[]) Tryz.func100 rfl rfl Tryz.ntmps100 rfl envZ (fun N β=>?_)
 cases x <;> cases y
 all_goals
  repeat' (first
   | (refine AB ?_)
   | (refine AD ?_)
   | (refine AL ?_)
   | (refine AJ ?_)
   | (refine AC ?_)
   | (refine AA ?_)
   | (refine AE ?_)
   | (refine AH rfl rfl rfl ?_)
   | fail)
  exact AI (res1 rfl rfl) rsubZ selZ ⟨rfl,rfl⟩
theorem exUnion_spec (ρ τ:PH) (va vb:Value) (a b:Iv) (ha:SpAt ρ va a) (hb:SpAt τ vb b) (h0a:chkI a = 0) (h0b:chkI b = 0) (hlen:a.length + b.length ≤ 1000) :
  Makes Tryz.prog (fv 63) [va,vb] [ρ,τ] (fun r σ=>∃ u,r = .tuple #[u,int 0] ∧ OwnS 93 2 u (combI (fun x y=>x || y) a b).length ((combI (fun x y=>x || y) a b).flatMap encS) σ):=by
 have h:=ivCombine_spec ρ τ va vb 100 a b (fun x y=>x || y) ha hb h0a h0b hlen rfl exOr_spec
 obtain ⟨qa,ca,rfl,_⟩:=ha.val encS_len
 obtain ⟨qb,cb,rfl,_⟩:=hb.val encS_len
 refine spec_in (cap:=[]) Tryz.func63 rfl rfl Tryz.ntmps63 rfl envZ (fun N β=>?_)
 refine Acc ?_;refine Abp ?_;refine BZ h rfl rfl rdZ rfl rfl ?_;rintro _ σ ⟨u,rfl,hO⟩;refine Aa3 ?_;refine Aan ?_;exact AI (res2 rfl rfl rfl) rsubZ selZ ⟨σ,⟨u,rfl,hO⟩,rfl⟩
set_option maxHeartbeats 32000000 in
theorem Sides_spec {ρ τ σ υ:PH} {pq pc pb ph:Option Addr} {kq kc kb kh:Nat} {qs:List Int} {cs:List Ct} {bs:List Bk} {hs:List Hd} (hT:TbAt ρ τ σ υ pq pc pb ph kq kc kb kh qs cs bs hs) (d:Dm) (ω:PH) (u0:Value) (side:List Int) (hu:IntsAt ω u0 side) (hsl:side.length ≤ 1000000) :
  Eng.Spec Tryz.prog (fv 31) [.agg #[.slice pq qs.length kq,.slice pc cs.length kc,.slice pb bs.length kb,.slice ph hs.length kh],.agg #[int d.s,int d.d,int d.v,int d.r,int d.e],u0] [ρ,τ,σ,υ,ω] [] (fun r H'=>∃ (L:List Sq) (u:Value) (σ' χ':PH),r = .tuple #[u,int (sidesE qs cs bs hs d side)] ∧ H' = [σ',χ'] ∧ cuL L = (if sidesE qs cs bs hs d side = 0 then sidesC d qs.length side else []) ∧ CutL σ' χ' u L):=by
 obtain ⟨pf,kf,rfl,hrf⟩:=hu.val Eng.encI_len
 have hnil:CutL emp emp (.slice none 0 0) []:=⟨⟨rfl,.inl ⟨rfl,none,0,rfl⟩⟩,by simp⟩
 refine spec_in (cap:=[]) Tryz.func31 rfl rfl Tryz.ntmps31 rfl envZ (fun N β=>?_)
 refine Aa ?_;refine BH (BK rfl) rfl rfl rfl ?_;rintro _ _ ⟨b1,rfl,rfl⟩;refine AR (ρ:=sng b1 _) takeZ ?_
 have ct:=rdB b1 29 [.slice pq qs.length kq,.slice pc cs.length kc,.slice pb bs.length kb,.slice ph hs.length kh]
 have ct0:=rdC ct 0
 have ct1:=rdC ct 1
 have ct2:=rdC ct 2
 have ct3:=rdC ct 3
 have ctp:RdP (sng b1 (.cells #[.slice pq qs.length kq,.slice pc cs.length kc,.slice pb bs.length kb,.slice ph hs.length kh] 29 (0,0))) b1 0 [.slice pq qs.length kq,.slice pc cs.length kc]:=rdP_sng (xs:=[.slice pq qs.length kq,.slice pc cs.length kc,.slice pb bs.length kb,.slice ph hs.length kh]) rfl
 refine BH (BK rfl) rfl rfl rfl ?_;rintro _ _ ⟨b2,rfl,rfl⟩;refine AR (ρ:=sng b2 _) takeZ ?_
 have cd:=rdB b2 31 [int d.s,int d.d,int d.v,int d.r,int d.e]
 have cd0:=rdC cd 0
 have cd1:=rdC cd 1
 have cd2:=rdC cd 2
 have cd3:=rdC cd 3
 have cd4:=rdC cd 4
 refine BX ?_;refine BX ?_;refine Aan ?_;refine Ab0 ?_;refine BE (build_spec hT d) rfl rfl Takes.nil rdZ rfl rfl ?_;rintro _ H' (⟨hv,rfl,rfl⟩ | ⟨hv,bw,bm,pl0,χ,M,rfl,rfl,hO,hM⟩)
 ·have hE:sidesE qs cs bs hs d side = 1:=by unfold sidesE; rw [if_neg (by simp [hv])]
  rw [hE];refine Ab7 ?_;refine Ac2 ?_;refine Acc ?_;exact AI (res2 rfl rfl rfl) rsubZ selZ ⟨[],_,emp,emp,rfl,rfl,rfl,hnil⟩
 have hEv:sidesE qs cs bs hs d side = (Go.Flow.capacitySpec (vsN qs d) (arcsG qs cs bs hs d) side).2:=by unfold sidesE; rw [if_pos hv]
 have h:=vok hv
 have h0:=vokB hv
 have hdm:=h.dm
 unfold okDm at hdm
 have hnq:=h.nq
 obtain ⟨pl,kp,rfl⟩:=hO.form
 have hpl:SlE encS 2 χ (.slice pl (placesA d qs.length).length kp) (placesA d qs.length):=hO.at
 refine AR (ρ:=sng bw _) takeZ ?_;refine AR (ρ:=sng bm _) takeZ ?_;refine AR (ρ:=χ) takeZ ?_
 have w0:rdc (sng bw (.cells #[.slice pq qs.length kq,.slice pc cs.length kc,.slice pb bs.length kb,.slice ph hs.length kh,int d.s,int d.d,int d.v,int d.r,int d.e,.slice pl (placesA d qs.length).length kp,.map (some bm)] 134 (0,0))) bw 0 = some (.slice pq qs.length kq):=by rw [rdc_sng]; rfl
 have w1:rdc (sng bw (.cells #[.slice pq qs.length kq,.slice pc cs.length kc,.slice pb bs.length kb,.slice ph hs.length kh,int d.s,int d.d,int d.v,int d.r,int d.e,.slice pl (placesA d qs.length).length kp,.map (some bm)] 134 (0,0))) bw 1 = some (.slice pc cs.length kc):=by rw [rdc_sng]; rfl
 have w2:rdc (sng bw (.cells #[.slice pq qs.length kq,.slice pc cs.length kc,.slice pb bs.length kb,.slice ph hs.length kh,int d.s,int d.d,int d.v,int d.r,int d.e,.slice pl (placesA d qs.length).length kp,.map (some bm)] 134 (0,0))) bw 2 = some (.slice pb bs.length kb):=by rw [rdc_sng]; rfl
 have w3:rdc (sng bw (.cells #[.slice pq qs.length kq,.slice pc cs.length kc,.slice pb bs.length kb,.slice ph hs.length kh,int d.s,int d.d,int d.v,int d.r,int d.e,.slice pl (placesA d qs.length).length kp,.map (some bm)] 134 (0,0))) bw 3 = some (.slice ph hs.length kh):=by rw [rdc_sng]; rfl
 have w4:rdc (sng bw (.cells #[.slice pq qs.length kq,.slice pc cs.length kc,.slice pb bs.length kb,.slice ph hs.length kh,int d.s,int d.d,int d.v,int d.r,int d.e,.slice pl (placesA d qs.length).length kp,.map (some bm)] 134 (0,0))) bw 4 = some (int d.s):=by rw [rdc_sng]; rfl
 have w5:rdc (sng bw (.cells #[.slice pq qs.length kq,.slice pc cs.length kc,.slice pb bs.length kb,.slice ph hs.length kh,int d.s,int d.d,int d.v,int d.r,int d.e,.slice pl (placesA d qs.length).length kp,.map (some bm)] 134 (0,0))) bw 5 = some (int d.d):=by rw [rdc_sng]; rfl
 have w6:rdc (sng bw (.cells #[.slice pq qs.length kq,.slice pc cs.length kc,.slice pb bs.length kb,.slice ph hs.length kh,int d.s,int d.d,int d.v,int d.r,int d.e,.slice pl (placesA d qs.length).length kp,.map (some bm)] 134 (0,0))) bw 6 = some (int d.v):=by rw [rdc_sng]; rfl
 have w7:rdc (sng bw (.cells #[.slice pq qs.length kq,.slice pc cs.length kc,.slice pb bs.length kb,.slice ph hs.length kh,int d.s,int d.d,int d.v,int d.r,int d.e,.slice pl (placesA d qs.length).length kp,.map (some bm)] 134 (0,0))) bw 7 = some (int d.r):=by rw [rdc_sng]; rfl
 have w8:rdc (sng bw (.cells #[.slice pq qs.length kq,.slice pc cs.length kc,.slice pb bs.length kb,.slice ph hs.length kh,int d.s,int d.d,int d.v,int d.r,int d.e,.slice pl (placesA d qs.length).length kp,.map (some bm)] 134 (0,0))) bw 8 = some (int d.e):=by rw [rdc_sng]; rfl
 have w9:rdc (sng bw (.cells #[.slice pq qs.length kq,.slice pc cs.length kc,.slice pb bs.length kb,.slice ph hs.length kh,int d.s,int d.d,int d.v,int d.r,int d.e,.slice pl (placesA d qs.length).length kp,.map (some bm)] 134 (0,0))) bw 9 = some (.slice pl (placesA d qs.length).length kp):=by rw [rdc_sng]; rfl
 have w10:rdc (sng bw (.cells #[.slice pq qs.length kq,.slice pc cs.length kc,.slice pb bs.length kb,.slice ph hs.length kh,int d.s,int d.d,int d.v,int d.r,int d.e,.slice pl (placesA d qs.length).length kp,.map (some bm)] 134 (0,0))) bw 10 = some (.map (some bm)):=by rw [rdc_sng]; rfl
 have hg:=graph_spec hT bw bm kp pl χ M d h h0 hpl hM
 have hEl:=ea_len qs cs bs hs d h
 have hAl:(arcsG qs cs bs hs d).length = (arcsE qs cs bs hs d).length:=by unfold arcsG; rw [List.length_map]
 refine Aem ?_;refine Aad ?_;refine BZ hg rfl rfl rdZ rfl rfl ?_;rintro _ σg ⟨ug,rfl,hOg⟩
 have hAt:ArcsAt σg ug (arcsG qs cs bs hs d):=hOg.at
 obtain ⟨pg,kg,rfl⟩:=hOg.form
 refine AR (ρ:=σg) takeZ ?_;refine AX ?_; rintro _ _ ⟨b,rfl,rfl⟩;refine AV ?_; rintro _ _ ⟨rfl,rfl⟩;refine Aaj ?_;refine Acl ?_;refine AB ?_
 revert b; intro bg
 refine AR (ρ:=sng bg _) takeZ ?_
 have gg0:rdc (sng bg (.cells #[int (vsN qs d),.slice pg (arcsG qs cs bs hs d).length kg,int (vtx d d.s d.r),int (vtx d d.d d.e)] 69 (0,0))) bg 0 = some (int (vsN qs d)):=by rw [rdc_sng]; rfl
 have gg1:rdc (sng bg (.cells #[int (vsN qs d),.slice pg (arcsG qs cs bs hs d).length kg,int (vtx d d.s d.r),int (vtx d d.d d.e)] 69 (0,0))) bg 1 = some (.slice pg (arcsG qs cs bs hs d).length kg):=by rw [rdc_sng]; rfl
 have gg2:rdc (sng bg (.cells #[int (vsN qs d),.slice pg (arcsG qs cs bs hs d).length kg,int (vtx d d.s d.r),int (vtx d d.d d.e)] 69 (0,0))) bg 2 = some (int (vtx d d.s d.r)):=by rw [rdc_sng]; rfl
 have gg3:rdc (sng bg (.cells #[int (vsN qs d),.slice pg (arcsG qs cs bs hs d).length kg,int (vtx d d.s d.r),int (vtx d d.d d.e)] 69 (0,0))) bg 3 = some (int (vtx d d.d d.e)):=by rw [rdc_sng]; rfl
 have hcap:=flowCapacity_spec σg ω _ _ (vsN qs d) (arcsG qs cs bs hs d) side hAt hu (by omega) (by omega)
 skip
 refine A2 hcap rfl rfl rdZ rfl rfl ?_;rintro _ rfl;rw [← hEv]
 generalize (Go.Flow.capacitySpec (vsN qs d) (arcsG qs cs bs hs d) side).1 = vv
 by_cases hz:sidesE qs cs bs hs d side = 0
 rotate_left
 ·rw [if_neg hz]
  refine Acx ?_;refine Acs ?_;refine Adn ?_;exact AI (res2 rfl rfl rfl) rsubZ selZ ⟨[],_,emp,emp,rfl,rfl,rfl,hnil⟩
 have hin:=sidesE_in hv hz
 rw [hz,if_pos rfl]
 have hplen:(((placesA d qs.length).length:Nat):Int) = vsN qs d:=placesA_len (d:=d) (by omega) qs.length
 obtain ⟨_,_,ep,hrp⟩:=SlE.val (enc:=encS) encS_len hpl
 simp only [Value.slice.injEq] at ep
 obtain ⟨rfl,_,rfl⟩:=ep
 refine Acx ?_;refine Abc ?_;refine Ac0 ?_;refine Ac8 ?_;refine F3 ?_; rintro _ _ ⟨b,rfl,rfl⟩;refine Aab ?_;refine Ab5 ?_
 revert b; intro B
 rw [rowsQ_rep]
 refine BA [3,8,13,44,45] (X:=Nat × List Sq × PH) (0,List.replicate qs.length ((none,0),[]),emp) (fun x=>x.1 ≤ side.length ∧ cuL x.2.1 = sidesC d qs.length (side.take x.1) ∧ ∀ z ∈ x.2.1,SpAt x.2.2 (.slice z.1.1 z.2.length z.1.2) z.2 ∧ z.2.length ≤ 1000) (fun x=>[(46,int x.1)]) (fun x=>[sng B (.cells (rowsQ x.2.1).toArray 91 (0,0)),x.2.2]) (fun x=>side.length - x.1) pickZ ⟨by dsimp only; omega,?_,fun z hz=>?_⟩ covZ selZ ?_
 ·dsimp only
  rw [List.take_zero,sidesC_nil];exact List.map_replicate
 ·obtain ⟨_,rfl⟩:=List.mem_replicate.1 hz
  exact ⟨⟨rfl,.inl ⟨rfl,_,_,rfl⟩⟩,by simp⟩
 rintro ⟨k,L,κ⟩ ⟨hk,hL,hS⟩
 dsimp only at hk hL hS ⊢
 have hLl:L.length = qs.length:=by
  have:=congrArg List.length hL
  rwa [List.length_map,sidesC_len] at this
 by_cases hlt:k < side.length
 rotate_left
 ·have hke:k = side.length:=by omega
  subst hke;rw [List.take_length] at hL;refine Abr ?_;refine Adn ?_
  refine AI (res2 rfl rfl rfl) rsubZ selZ ⟨L,.slice (some ⟨B,0,none⟩) qs.length qs.length,_,κ,rfl,rfl,hL,?_,fun z hz=>⟨(hS z hz).1,by have:=(hS z hz).2; omega⟩⟩
  have:=slE_sng (enc:=encQ) encQ_len (b:=B) (l:=L) (t:=91) (fr:=(0,0)) (c:=qs.length)
  unfold elems at this;rw [rowsQ_flat,hLl] at this;exact this
 have hx:=List.getElem?_eq_getElem hlt
 have hvi:=hin _ (List.getElem_mem hlt)
 obtain ⟨n,t,hn,ht1,ht2,hkv,hkn⟩:=place_of (d:=d) (by omega) (k:=side[k].toNat) (N:=qs.length) (by rw [Int.toNat_of_nonneg hvi.1]; exact hvi.2)
 rw [Int.toNat_of_nonneg hvi.1] at hkv
 have hp:=placesA_get (d:=d) (by omega) ht1 ht2 hn
 rw [← hkv] at hp
 have hdv:=vtx_div (d:=d) (n:=n) (t:=t) ht1 ht2
 have hdm2:=vtx_mod (d:=d) (n:=n) (t:=t) ht1 ht2
 rw [← hkv] at hdv hdm2
 have hnx:=sidesC_next d qs.length hlt hdv
 rw [hdm2,show d.r + (t - d.r) = t by omega,← sideI_one (sideI_ok d (side.take k) n).1] at hnx
 obtain ⟨b6,o6,epl,hRd6,y0,y1⟩:=spRow hrp hp
 obtain ⟨bo,oo,epf,gf⟩:=hrf.int hx
 have hLn:=List.getElem?_eq_getElem (show n < L.length by omega)
 have hSn:=hS _ (List.getElem_mem (show n < L.length by omega))
 have hLe:L[n].2 = sideI d (side.take k) n:=by
  have e1:(cuL L)[n]? = some L[n].2:=by rw [List.getElem?_map,hLn]; rfl
  rw [hL] at e1;unfold sidesC at e1;rw [List.getElem?_map,List.getElem?_range hn] at e1;exact (Option.some.inj e1).symm
 have hnorm:=(sideI_ok d (side.take k) n).1
 have hslen:=sideI_small h (side.take k) n
 have hchk:=sideI_chk h (side.take k) n
 rw [← hLe] at hnorm hslen hchk hnx
 have gB:rdc (sng B (.cells (rowsQ L).toArray 91 (0,0))) B n = some (.slice L[n].1.1 L[n].2.length L[n].1.2):=by
  rw [rdc_sng]
  simp [rowsQ,hLn]
 generalize hzz:L[n] = z at hLn hSn hLe hnorm hslen hchk hnx gB
 obtain ⟨⟨pz,kz⟩,lz⟩:=z
 dsimp only at hSn hLe hnorm hslen hchk hnx gB
 have hc1:chkI [(t,t + 1)] = 0:=chkI_of (by simp) (NormI.nil.cons (by dsimp only; omega) (by simp)) (fun x hx=>by
  obtain rfl:=List.mem_singleton.1 hx
  unfold okSp
  dsimp only
  omega)
 have hun:=fun b8=>exUnion_spec κ (sng b8 (.cells #[int t,int (t + 1)] 93 (0,0))) (.slice pz lz.length kz) (.slice (some ⟨b8,0,none⟩) 1 1) lz [(t,t + 1)] hSn.1 (slE_sng encS_len) hchk hc1 (by simp only [List.length_singleton]; omega)
 have hcl:=(combI_ok (f:=fun x y=>x || y) rfl hnorm (b:=[(t,t + 1)]) (NormI.nil.cons (by dsimp only; omega) (by simp))).2.2
 simp only [List.length_singleton] at hcl
 obtain ⟨v,hvv⟩:=Int.eq_ofNat_of_zero_le hvi.1
 rw [hvv] at gf y0 y1 hRd6;rw [Int.toNat_natCast] at y0 y1 hRd6
 have hvl:(v:Int) < (((placesA d qs.length).length:Nat):Int):=by omega
 subst epl;subst epf;refine Adl ?_;refine Aa7 ?_;refine Adi ?_;refine AB ?_;refine Abk ?_;refine AX ?_; rintro _ _ ⟨b,rfl,rfl⟩;refine AV ?_; rintro _ _ ⟨rfl,rfl⟩;refine AE ?_
 revert b; intro b16
 refine A5 (.q 0 (.q 1 (.q 2 (.q 3 (.q 4 (.q 5 (.q 6 (.q 7 (.q 8 (.q 9 (.q 10 (.q 11 (.q 12 (.q 13 (.l 14 .e (.l 15 .e (.q 16 (.q 17 (.p 18 (.q 19 (.l 20 .b .nil))))))))))))))))))))) [] rfl (by kernel_rfl) Sel.nil ?_
 refine Ac3 ?_;refine Ac3 ?_;refine Adq ?_;refine Ac6 ?_;refine C4 ?_;refine CQ ?_;refine B0 ?_; rintro _ _ ⟨b,rfl,rfl⟩
 revert b; intro b8
 refine CP (DF rfl (hun b8) rfl rfl rdZ rfl rfl ?_);rintro _ _ ⟨σi,⟨ui,rfl,hOi⟩,rfl⟩
 obtain ⟨pi,ci,rfl⟩:=hOi.form
 refine AS ?_;refine DH ?_;refine E6 ?_;refine B9 ?_;refine CP ?_;refine' FX rfl _ rfl rfl _ _; rotate_left
 ·(apply C5; exact rfl; exact rfl; exact rfl; exact rfl; exact takeZ; (simp [rowsQ_len]; omega))
 ·rintro _ _ ⟨_,rfl⟩ w hw; exact hw.sel Sel.nil
 rintro _ _ ⟨rfl,rfl⟩;refine A6 ?_;refine Aa2 ?_
 show JK _ _ _ (sng B (.cells ((rowsQ L).toArray.setIfInBounds n (Value.slice pi (combI (fun x y=>x || y) lz [(t,t + 1)]).length ci)) 91 (0,0)) :: _) _ _
 have hset:=rowsQ_set L n ((pi,ci),combI (fun x y=>x || y) lz [(t,t + 1)])
 dsimp only at hset
 rw [hset]
 refine DR (ρ:=σi) (σ:=κ) takeZ takeZ (fun χ1 s1 s2=>?_)
 refine AY (k + 1,L.set n ((pi,ci),combI (fun x y=>x || y) lz [(t,t + 1)]),χ1) ⟨by dsimp only; omega,?_,fun z hz=>?_⟩ (by dsimp only; omega) covZ selZ
 ·dsimp only
  rw [hnx,← hL];exact List.map_set
 ·rcases List.mem_or_eq_of_mem_set hz with hz | rfl
  ·exact ⟨(hS z hz).1.mono s2,(hS z hz).2⟩
  ·exact ⟨SlE.mono (show SpAt σi _ _ from hOi.at) s1,by dsimp only; omega⟩
end Go.Proofs.YtphehihohghfoaaGreat
/- Sizes, demands, equal cuts. -/
namespace Go.Proofs.YtphehihohghfoaaGreat
open Go.Eng Go.Step
set_option maxRecDepth 100000
set_option maxHeartbeats 4000000

theorem greatPlan_spec (pq pc:Option Addr) (kq kc nq nc:Nat):Ans Tryz.prog (fv 87) [.agg #[.slice pq nq kq,.slice pc nc kc]] [] (fun r=>r = .bool (decide (6 < nq ∨ 10 < nc))):=by
 refine spec_in (cap:=[]) Tryz.func87 rfl rfl Tryz.ntmps87 rfl envZ (fun N β=>?_)
 refine Aa ?_;refine BH (BK rfl) rfl rfl rfl ?_;rintro _ _ ⟨b1,rfl,rfl⟩;refine AR (ρ:=sng b1 _) takeZ ?_
 have c:=rdB b1 25 [.slice pq nq kq,.slice pc nc kc]
 have c0:=rdC c 0
 have c1:=rdC c 1
 by_cases h1:6 < nq
 ·rw [decide_eq_true (.inl h1)]
  refine Aci ?_;refine CL ?_;refine Aa9 ?_;refine Ab3 ?_;exact AI (res1 rfl rfl) rsubZ selZ ⟨rfl,rfl⟩
 by_cases h2:10 < nc
 ·rw [decide_eq_true (.inr h2)]
  refine Aci ?_;refine BU ?_;refine Aae ?_;refine AW ?_;refine CL ?_;refine Abz ?_;exact AI (res1 rfl rfl) rsubZ selZ ⟨rfl,rfl⟩
 rw [decide_eq_false (by omega)]
 refine Aci ?_;refine BU ?_;refine Aae ?_;refine Adw ?_;refine Abz ?_;exact AI (res1 rfl rfl) rsubZ selZ ⟨rfl,rfl⟩
set_option maxHeartbeats 16000000 in
theorem great29_spec (pq pc pb ph:Option Addr) (kq kc kb kh nq nc nb nh:Nat):Ans Tryz.prog (fv 50) [.agg #[.slice pq nq kq,.slice pc nc kc,.slice pb nb kb,.slice ph nh kh]] [] (fun r=>r = .bool (decide (6 < nq ∨ 10 < nc ∨ 30 < nb ∨ 30 < nh))):=by
 refine spec_in (cap:=[]) Tryz.func50 rfl rfl Tryz.ntmps50 rfl envZ (fun N β=>?_)
 refine Aa ?_;refine BH (BK rfl) rfl rfl rfl ?_;rintro _ _ ⟨b1,rfl,rfl⟩;refine AR (ρ:=sng b1 _) takeZ ?_
 have c:=rdB b1 29 [.slice pq nq kq,.slice pc nc kc,.slice pb nb kb,.slice ph nh kh]
 have c0:=rdC c 0
 have c1:=rdC c 1
 have c2:=rdC c 2
 have c3:=rdC c 3
 have ctp:RdP (sng b1 (.cells #[.slice pq nq kq,.slice pc nc kc,.slice pb nb kb,.slice ph nh kh] 29 (0,0))) b1 0 [.slice pq nq kq,.slice pc nc kc]:=rdP_sng (xs:=[.slice pq nq kq,.slice pc nc kc,.slice pb nb kb,.slice ph nh kh]) rfl
 refine Aab ?_;refine Ac0 ?_;refine AT ?_;refine A2 (greatPlan_spec pq pc kq kc nq nc) rfl rfl rdZ rfl rfl ?_;rintro _ rfl
 by_cases h1:6 < nq ∨ 10 < nc
 ·rw [decide_eq_true h1,decide_eq_true (by omega)]
  refine Acr ?_;refine Aa9 ?_;refine Ab3 ?_;exact AI (res1 rfl rfl) rsubZ selZ ⟨rfl,rfl⟩
 rw [decide_eq_false h1]
 by_cases h2:30 < nb
 ·rw [decide_eq_true (by omega)]
  refine Aae ?_;refine AW ?_;refine CL ?_;refine AJ ?_;refine Aa9 ?_;refine Ab3 ?_;exact AI (res1 rfl rfl) rsubZ selZ ⟨rfl,rfl⟩
 by_cases h3:30 < nh
 ·rw [decide_eq_true (by omega)]
  refine Aae ?_;refine Adw ?_;refine Aap ?_;refine AW ?_;refine CL ?_;refine Abz ?_;exact AI (res1 rfl rfl) rsubZ selZ ⟨rfl,rfl⟩
 rw [decide_eq_false (by omega)]
 refine Aae ?_;refine Adw ?_;refine Aap ?_;refine Adw ?_;refine Abz ?_;exact AI (res1 rfl rfl) rsubZ selZ ⟨rfl,rfl⟩
set_option maxHeartbeats 16000000 in
theorem great53_spec (pq pc pb ph:Option Addr) (kq kc kb kh nq nc nb nh:Nat) (d:Dm):Ans Tryz.prog (fv 24) [.agg #[.slice pq nq kq,.slice pc nc kc,.slice pb nb kb,.slice ph nh kh],.agg #[int d.s,int d.d,int d.v,int d.r,int d.e]] [] (fun r=>∃ b,r = .bool b):=by
 refine spec_in (cap:=[]) Tryz.func24 rfl rfl Tryz.ntmps24 rfl envZ (fun N β=>?_)
 refine Aa ?_;refine BH (BK rfl) rfl rfl rfl ?_;rintro _ _ ⟨b1,rfl,rfl⟩;refine AR (ρ:=sng b1 _) takeZ ?_
 have c:=rdB b1 29 [.slice pq nq kq,.slice pc nc kc,.slice pb nb kb,.slice ph nh kh]
 have c0:=rdC c 0
 have c1:=rdC c 1
 have c2:=rdC c 2
 have c3:=rdC c 3
 refine BH (BK rfl) rfl rfl rfl ?_;rintro _ _ ⟨b2,rfl,rfl⟩;refine AR (ρ:=sng b2 _) takeZ ?_
 have cd:=rdB b2 31 [int d.s,int d.d,int d.v,int d.r,int d.e]
 have cd0:=rdC cd 0
 have cd1:=rdC cd 1
 have cd2:=rdC cd 2
 have cd3:=rdC cd 3
 have cd4:=rdC cd 4
 refine Aab ?_;refine Abm ?_;refine A2 (great29_spec pq pc pb ph kq kc kb kh nq nc nb nh) rfl rfl rdZ rfl rfl ?_;rintro _ rfl
 obtain ⟨w1,hw1⟩:∃ w1,w1 = IntKind.i64.wrap (d.r + 24):=⟨_,rfl⟩
 obtain ⟨w2,hw2⟩:∃ w2,w2 = IntKind.i64.wrap (d.r + 100):=⟨_,rfl⟩
 cases decide (6 < nq ∨ 10 < nc ∨ 30 < nb ∨ 30 < nh) with
 | true =>
  refine Ach ?_;refine Aaa ?_;refine Aaa ?_;refine Aaa ?_;refine Aaa ?_;refine Ab3 ?_;exact AI (res1 rfl rfl) rsubZ selZ ⟨rfl,_,rfl⟩
 | false =>
 by_cases h2:w1 < d.e
 ·by_cases h3:d.e ≤ w2
  ·refine AB ?_
   refine Acy ?_
   focus ((refine CD (EL rfl rfl) rfl rfl rfl ?_; first | rw [← hw1] | rw [← hw2]))
   refine CL ?_;refine Ab ?_
   focus ((refine CD (EL rfl rfl) rfl rfl rfl ?_; first | rw [← hw1] | rw [← hw2]))
   refine CJ ?_;refine AL ?_;refine Abz ?_;exact AI (res1 rfl rfl) rsubZ selZ ⟨rfl,_,rfl⟩
  ·refine AB ?_
   refine Acy ?_
   focus ((refine CD (EL rfl rfl) rfl rfl rfl ?_; first | rw [← hw1] | rw [← hw2]))
   refine CL ?_;refine Ab ?_
   focus ((refine CD (EL rfl rfl) rfl rfl rfl ?_; first | rw [← hw1] | rw [← hw2]))
   refine CN ?_;refine AL ?_;refine Abz ?_;exact AI (res1 rfl rfl) rsubZ selZ ⟨rfl,_,rfl⟩
 ·refine AB ?_
  refine Acy ?_
  focus ((refine CD (EL rfl rfl) rfl rfl rfl ?_; first | rw [← hw1] | rw [← hw2]))
  refine BU ?_;refine Ach ?_;refine AJ ?_;refine Abz ?_;exact AI (res1 rfl rfl) rsubZ selZ ⟨rfl,_,rfl⟩
def okDmB (nq:Nat) (d:Dm):Bool:=decide (okDm nq d)
set_option maxHeartbeats 32000000 in
theorem demand53_spec (pq pc:Option Addr) (kq kc nq nc:Nat) (d:Dm):Ans Tryz.prog (fv 53) [.agg #[.slice pq nq kq,.slice pc nc kc],.agg #[int d.s,int d.d,int d.v,int d.r,int d.e]] [] (fun r=>r = .bool (okDmB nq d)):=by
 refine spec_in (cap:=[]) Tryz.func53 rfl rfl Tryz.ntmps53 rfl envZ (fun N β=>?_)
 refine Aa ?_;refine BH (BK rfl) rfl rfl rfl ?_;rintro _ _ ⟨b1,rfl,rfl⟩;refine AR (ρ:=sng b1 _) takeZ ?_
 have c:=rdB b1 25 [.slice pq nq kq,.slice pc nc kc]
 have c0:=rdC c 0
 have c1:=rdC c 1
 refine BH (BK rfl) rfl rfl rfl ?_;rintro _ _ ⟨b2,rfl,rfl⟩;refine AR (ρ:=sng b2 _) takeZ ?_
 have cd:=rdB b2 31 [int d.s,int d.d,int d.v,int d.r,int d.e]
 have cd0:=rdC cd 0
 have cd1:=rdC cd 1
 have cd2:=rdC cd 2
 have cd3:=rdC cd 3
 have cd4:=rdC cd 4
 by_cases c1:d.s < 0
 ·rw [show okDmB nq d = false from decide_eq_false (fun h=>by unfold okDm at h; omega)]
  refine Add ?_;refine Aao ?_;refine BC ?_;refine Acr ?_;refine Abv ?_;refine Acr ?_;refine Aed ?_;refine Ad9 ?_;exact AI (res1 rfl rfl) rsubZ selZ ⟨rfl,rfl⟩
 by_cases c182:(nq:Int) ≤ d.s
 ·rw [show okDmB nq d = false from decide_eq_false (fun h=>by unfold okDm at h; omega)]
  refine Ado ?_;refine AB ?_;refine CC ?_;refine AJ ?_;refine Abv ?_;refine Acr ?_;refine Aed ?_;refine Ad9 ?_;exact AI (res1 rfl rfl) rsubZ selZ ⟨rfl,rfl⟩
 by_cases c374:d.d < 0
 ·rw [show okDmB nq d = false from decide_eq_false (fun h=>by unfold okDm at h; omega)]
  refine Adv ?_;refine BC ?_;refine AJ ?_;refine Acr ?_;refine Aed ?_;refine Ad9 ?_;exact AI (res1 rfl rfl) rsubZ selZ ⟨rfl,rfl⟩
 by_cases c557:(nq:Int) ≤ d.d
 ·rw [show okDmB nq d = false from decide_eq_false (fun h=>by unfold okDm at h; omega)]
  refine Adv ?_;refine Abl ?_;refine AB ?_;refine CC ?_;refine AJ ?_;refine Aed ?_;refine Ad9 ?_;exact AI (res1 rfl rfl) rsubZ selZ ⟨rfl,rfl⟩
 by_cases c749:d.s = d.d
 ·rw [show okDmB nq d = false from decide_eq_false (fun h=>by unfold okDm at h; omega)]
  refine Adv ?_;refine Acp ?_;refine CI ?_;refine AJ ?_;refine Ad9 ?_;exact AI (res1 rfl rfl) rsubZ selZ ⟨rfl,rfl⟩
 by_cases c934:d.v < 1
 ·rw [show okDmB nq d = false from decide_eq_false (fun h=>by unfold okDm at h; omega)]
  refine Adv ?_;refine Ac4 ?_;refine Aap ?_;refine BC ?_;refine AJ ?_;refine Adb ?_;exact AI (res1 rfl rfl) rsubZ selZ ⟨rfl,rfl⟩
 by_cases c1117:1099511627776 < d.v
 ·rw [show okDmB nq d = false from decide_eq_false (fun h=>by unfold okDm at h; omega)]
  refine Adv ?_;refine Ac4 ?_;refine Aap ?_;refine Abl ?_;refine CL ?_;refine Ad1 ?_;exact AI (res1 rfl rfl) rsubZ selZ ⟨rfl,rfl⟩
 by_cases c1313:d.r < 0
 ·rw [show okDmB nq d = false from decide_eq_false (fun h=>by unfold okDm at h; omega)]
  refine Adv ?_;refine Ac4 ?_;refine Aap ?_;refine Abl ?_;refine BU ?_;refine Adc ?_;refine BG ?_;refine Ab6 ?_;refine AJ ?_;refine Ads ?_;refine Ael ?_;exact AI (res1 rfl rfl) rsubZ selZ ⟨rfl,rfl⟩
 by_cases c1497:d.e ≤ d.r
 ·rw [show okDmB nq d = false from decide_eq_false (fun h=>by unfold okDm at h; omega)]
  refine Adv ?_;refine Ac4 ?_;refine Aap ?_;refine Abl ?_;refine BU ?_;refine Ad6 ?_;refine Ab ?_;refine AZ ?_;refine AL ?_;refine Ads ?_;refine Ael ?_;exact AI (res1 rfl rfl) rsubZ selZ ⟨rfl,rfl⟩
 by_cases c1683:1099511627776 < d.e
 ·rw [show okDmB nq d = false from decide_eq_false (fun h=>by unfold okDm at h; omega)]
  refine Adv ?_;refine Ac4 ?_;refine Aap ?_;refine Abl ?_;refine BU ?_;refine Ad6 ?_;refine Ab ?_;refine BC ?_;refine Acj ?_;refine CN ?_;refine AL ?_;refine Ael ?_;exact AI (res1 rfl rfl) rsubZ selZ ⟨rfl,rfl⟩
 by_cases c1879:100 < d.e - d.r
 ·rw [show okDmB nq d = false from decide_eq_false (fun h=>by unfold okDm at h; omega)]
  refine Adv ?_;refine Ac4 ?_;refine Aap ?_;refine Abl ?_;refine BU ?_;refine Ad6 ?_;refine Ab ?_;refine BC ?_;refine Acj ?_;refine CJ ?_;refine Ac7 ?_;refine CY ?_;refine CN ?_;refine Ab3 ?_;exact AI (res1 rfl rfl) rsubZ selZ ⟨rfl,rfl⟩
 rw [show okDmB nq d = true from decide_eq_true (by unfold okDm; omega)]
 refine Adv ?_;refine Ac4 ?_;refine Aap ?_;refine Abl ?_;refine BU ?_;refine Ad6 ?_;refine Ab ?_;refine BC ?_;refine Acj ?_;refine CJ ?_;refine Ac7 ?_;refine CY ?_;refine CJ ?_;refine Ab3 ?_;exact AI (res1 rfl rfl) rsubZ selZ ⟨rfl,rfl⟩
end Go.Proofs.YtphehihohghfoaaGreat
/- Links, rooms, and the iterator that yields the links with room. -/
namespace Go.Proofs.YtphehihohghfoaaGreat
open Go.Eng Go.Flow
set_option maxRecDepth 100000
set_option maxHeartbeats 4000000

def encL (x:Lk):List Value:=[int x.k,int x.f,int x.t]
theorem encL_len (x:Lk):(encL x).length = 3:=rfl
theorem lkRow {ρ:PH} {p:Option Addr} {l:List Lk} (h:RowsE encL 3 ρ p l) {i:Nat} {x:Lk} (hx:l[i]? = some x) :
  ∃ b o,p = some ⟨b,o,none⟩ ∧ RdN ρ b (o + i * 3) [int x.k,int x.f,int x.t]:=by
 obtain ⟨b,o,e,hr⟩:=h i x hx
 exact ⟨b,o,e,hr⟩
def openL (rm:Nat → Int) (l:List Lk):List Lk:=l.filter (fun x=>decide (0 < rm x.k))
theorem openL_snoc (rm:Nat → Int) (l:List Lk) (x:Lk):openL rm (l ++ [x]) = openL rm l ++ (if 0 < rm x.k then [x] else []):=by
 unfold openL;rw [List.filter_append]
 by_cases h:0 < rm x.k <;> simp [h]
theorem openL_take {rm:Nat → Int} {l:List Lk} {k:Nat} (h:k < l.length) (hp:0 < rm l[k].k):(openL rm l)[(openL rm (l.take k)).length]? = some l[k]:=by
 have e:l = l.take k ++ (l[k] :: l.drop (k + 1)):=by
  rw [← List.drop_eq_getElem_cons h,List.take_append_drop]
 conv=>lhs; rw [e]
 unfold openL
 rw [List.filter_append,List.getElem?_append_right (by simp)]
 have:List.filter (fun x=>decide (0 < rm x.k)) (l[k] :: l.drop (k + 1)) = l[k] :: List.filter (fun x=>decide (0 < rm x.k)) (l.drop (k + 1)):=by
  rw [List.filter_cons,if_pos (by simpa using hp)]
 rw [this]
 have hl:(List.take k (List.take k l ++ l[k] :: List.drop (k + 1) l)) = List.take k l:=by rw [← e]
 rw [hl]
 simp

theorem open_spec (g l:Value) (hl1:l.oneCell' = true) (hg1:g.oneCell' = true) :
  Eng.Spec Tryz.prog (fv 59) [g,l] [] [] (fun v H'=>∃ bl bg,v = .func (.func 97) #[] #[.pointer (some ⟨bl,0,none⟩),.pointer (some ⟨bg,0,none⟩)] ∧
   H' = [sng bl (.cells #[l] 117 (0,0)),sng bg (.cells #[g] 110 (0,0))]):=by
 refine spec_in (cap:=[]) Tryz.func59 rfl rfl Tryz.ntmps59 rfl envZ (fun N β=>?_)
 refine Aa ?_;refine BH (CX rfl hg1) rfl rfl rfl ?_;rintro _ _ ⟨bg,rfl,rfl⟩;refine BH (CX rfl hl1) rfl rfl rfl ?_;rintro _ _ ⟨bl,rfl,rfl⟩;refine Aab ?_;refine Aa ?_;refine BW ?_;refine Aab ?_;exact AI (res1 rfl rfl) rsubZ selZ ⟨bl,bg,rfl,rfl⟩

theorem open_iter (γ:PH) (gb bl bg:Nat) (lv room:Value) (ls:List Lk) (rm:Nat → Int) (Rr:List PH) (hls:SlE encL 3 γ lv ls) (hlen:ls.length ≤ 1000000) (hroom:rdc γ gb 2 = some room)
  (hrm:∀ x ∈ ls,Ans Tryz.prog room [int x.k] Rr (fun v=>v = int (rm x.k))) :
  Iter Tryz.prog (.func (.func 97) #[] #[.pointer (some ⟨bl,0,none⟩),.pointer (some ⟨bg,0,none⟩)])
   ([sng bl (.cells #[lv] 117 (0,0)),sng bg (.cells #[.pointer (some ⟨gb,0,none⟩)] 110 (0,0)),γ] ++ Rr) ((openL rm ls).map (fun x=>[.agg (encL x).toArray])):=by
 intro y S Own Inv Stop Ry hy hyl σ0 h0
 obtain ⟨yl,rfl⟩:=hyl
 obtain ⟨p,c,rfl,hr⟩:=hls.val encL_len
 have c1:rdc (sng bl (.cells #[.slice p ls.length c] 117 (0,0))) bl 0 = some (.slice p ls.length c):=by rw [rdc_sng]; rfl
 have c2:rdc (sng bg (.cells #[.pointer (some ⟨gb,0,none⟩)] 110 (0,0))) bg 0 = some (.pointer (some ⟨gb,0,none⟩)):=by rw [rdc_sng]; rfl
 simp only [List.cons_append,List.nil_append]
 refine spec_in (cap:=[.pointer (some ⟨bl,0,none⟩),.pointer (some ⟨bg,0,none⟩)]) Tryz.func97 rfl rfl Tryz.ntmps97 rfl envZ (fun N β=>?_)
 refine Abd ?_;refine Abh ?_
 refine BA [0,1,2,6,7] ((0,σ0):Nat × S) (fun x=>x.1 ≤ ls.length ∧ Inv (openL rm (ls.take x.1)).length x.2) (fun x=>[(8,int x.1)]) (fun x=>Own x.2) (fun x=>ls.length - x.1) pickZ ⟨by simp,by simpa [openL] using h0⟩ covZ Sel.refl ?_
 rintro ⟨k,σ⟩ ⟨hk,hI⟩;simp only at hk hI
 by_cases hlt:k < ls.length
 ·obtain ⟨b',o,rfl,hA⟩:=lkRow hr (List.getElem?_eq_getElem hlt)
  have hrk:=hrm ls[k] (List.getElem_mem hlt)
  have hsn:=openL_snoc rm (ls.take k) ls[k]
  rw [← take_snoc' hlt] at hsn;refine Ab2 ?_;refine AX ?_; rintro _ _ ⟨b,rfl,rfl⟩;refine AV ?_; rintro _ _ ⟨rfl,rfl⟩;refine Aaj ?_
  by_cases hp:0 < rm ls[k].k
  ·have hget:=openL_take hlt hp
   have hyk:=hy (openL rm (ls.take k)).length σ [.agg (encL ls[k]).toArray] (by rw [List.getElem?_map,hget]; rfl) hI
   rw [if_pos hp] at hsn
   refine A5 (.q 0 (.q 1 (.q 2 (.q 3 (.q 4 (.q 5 (.l 6 .e (.q 7 (.q 8 (.q 9 (.q 10 (.l 11 .b (.q 12 (.q 13 .nil)))))))))))))) [] rfl (by kernel_rfl) Sel.nil ?_
   refine AQ ?_;refine Abw ?_;refine Aar ?_
   refine CP (CG rfl hrk rfl rfl (fun τ hτ=>.inl (by simp [hτ])) rfl rfl ?_)
   rintro _ rfl;refine D8 ?_;refine Aa8 ?_;refine BN ?_
   refine CP (DS rfl hyk rfl rfl (Takes.skip Takes.all) (fun τ hτ=>.inl (by simp [hτ])) rfl rfl (fun _ _ _ w hw=>hw.sel Sel.nil) ?_)
   rintro v H' ⟨σ',rfl,⟨rfl,hI'⟩ | ⟨rfl,hS⟩⟩
   ·refine CS ?_
    refine BY ?_;refine Aeh ?_
    refine AY (k + 1,σ') ⟨by simp only; omega,?_⟩ (by simp only; omega) covZ Sel.left
    simp only;rw [hsn]
    simpa using hI'
   ·refine CS ?_
    refine BY ?_;refine Abs ?_
    exact AI (res0 rfl) (fun _ h=>h) Sel.left ⟨σ',rfl,.inr hS⟩
  ·rw [if_neg hp,List.append_nil] at hsn
   refine A5 (.q 0 (.q 1 (.q 2 (.q 3 (.q 4 (.q 5 (.l 6 .e (.q 7 (.q 8 (.q 9 (.q 10 (.q 11 (.q 12 (.q 13 .nil)))))))))))))) [] rfl (by kernel_rfl) Sel.nil ?_
   refine AQ ?_;refine Abw ?_;refine Aar ?_
   refine CP (CG rfl hrk rfl rfl (fun τ hτ=>.inl (by simp [hτ])) rfl rfl ?_)
   rintro _ rfl;refine DK ?_;refine Aec ?_;refine BV ?_;refine Aeh ?_
   refine AY (k + 1,σ) ⟨by simp only; omega,?_⟩ (by simp only; omega) covZ (Sel.skip Sel.refl)
   simp only;rw [hsn]; exact hI
 ·refine AC ?_
  refine Ad0 ?_
  refine B8 (res0 rfl) (fun _ h=>h) Sel.refl ⟨σ,rfl,.inl ?_⟩
  rw [List.take_of_length_le (by omega)] at hI
  simpa using hI
end Go.Proofs.YtphehihohghfoaaGreat
/- Distances by a queue. -/
namespace Go.Proofs.YtphehihohghfoaaGreat
open Go.Eng Go.Flow
set_option maxRecDepth 100000
set_option maxHeartbeats 4000000

theorem next_spec (bq:Nat) (qv:Value) (x:Value) (k:Nat) (xs:List Value) (ρq:PH) (hq:OwnO 3 1 qv (k + 1) (x :: xs) ρq) :
  Eng.Spec Tryz.prog (.func (.func 134) #[] #[.pointer (some ⟨bq,0,none⟩)]) [] [] [sng bq (.cells #[qv] 22 (0,0)),ρq]
   (fun v H'=>v = x ∧ ∃ qv',OwnO 3 1 qv' k xs ρq ∧ qv'.oneCell' = true ∧ H' = [sng bq (.cells #[qv'] 22 (0,0)),ρq]):=by
 obtain ⟨b,o,cap,rfl,h0,h1⟩:=hq.head
 refine spec_in (cap:=[.pointer (some ⟨bq,0,none⟩)]) Tryz.func134 rfl rfl Tryz.ntmps134 rfl envZ (fun N β=>?_)
 refine Aal ?_;refine Abd ?_;refine GP ?_;refine AF ?_;refine Aab ?_;refine Abd ?_
 focus ((refine' CD _ rfl rfl rfl _; rotate_left; (apply ED (i:=1); exact rfl; exact rfl; exact rfl; exact rfl; omega)))
 refine BD ?_; rintro _ _ ⟨rfl,rfl⟩;refine AE ?_;refine Abt ?_;exact AI (res1 rfl rfl) rsubZ selZ ⟨rfl,_,h1,rfl,rfl⟩

structure GAt (γ:PH) (gb n:Nat) (outs ins:Nat → List Lk) (room:Value):Prop where
 o:∃ ob c,rdc γ gb 0 = some (.slice (some ⟨ob,0,none⟩) n c) ∧ ∀ v,v < n → ∃ lv,rdc γ ob v = some lv ∧ SlE encL 3 γ lv (outs v)
 i:∃ ib c,rdc γ gb 1 = some (.slice (some ⟨ib,0,none⟩) n c) ∧ ∀ v,v < n → ∃ lv,rdc γ ib v = some lv ∧ SlE encL 3 γ lv (ins v)
 r:rdc γ gb 2 = some room
structure GOk (n:Nat) (outs ins:Nat → List Lk):Prop where
 n1:n ≤ 2000
 len:∀ v,(outs v).length ≤ 40000 ∧ (ins v).length ≤ 40000
 inT:∀ v x,v < n → x ∈ ins v → x.t = v ∧ x.f < n ∧ x.k ≤ 40000
 outF:∀ v x,v < n → x ∈ outs v → x.f = v ∧ x.t < n ∧ x.k ≤ 40000
 same:∀ x:Lk,x.f < n → x.t < n → (x ∈ outs x.f ↔ x ∈ ins x.t)
def opens (n:Nat) (ins:Nat → List Lk) (rm:Nat → Int) (x:Lk):Prop:=x.t < n ∧ x ∈ ins x.t ∧ 0 < rm x.k
theorem opens_lt {n:Nat} {outs ins:Nat → List Lk} {rm:Nat → Int} (h:GOk n outs ins) (x:Lk) (hx:opens n ins rm x):x.f < n ∧ x.t < n:=⟨(h.inT x.t x hx.1 hx.2.1).2.1,hx.1⟩
def qInts (q:List Nat):List Value:=q.map (fun (v:Nat)=>int (v:Int))
theorem fillL (n k:Nat) (h:k < n):(List.replicate k (-1:Int) ++ List.replicate (n - k) 0).set k (-1) = List.replicate (k + 1) (-1) ++ List.replicate (n - (k + 1)) 0:=by
 rw [List.set_append_right _ _ (by simp)]
 simp only [List.length_replicate,Nat.sub_self]
 obtain ⟨m,hm⟩:∃ m,n - k = m + 1:=⟨n - k - 1,by omega⟩
 rw [hm,List.replicate_succ,List.set_cons_zero,show n - (k + 1) = m from by omega,List.replicate_succ',List.append_assoc]
 rfl
theorem SlE.one {α:Type} {enc:α → List Value} {s:Nat} {ρ:PH} {v:Value} {l:List α} (h:SlE enc s ρ v l):v.oneCell' = true:=by
 obtain ⟨b,c,rfl⟩:=SlAt.cap h
 rfl
set_option maxHeartbeats 2000000 in
theorem distances_spec (γ:PH) (gb n t:Nat) (outs ins:Nat → List Lk) (room:Value) (rm:Nat → Int) (Rr:List PH) (hG:GAt γ gb n outs ins room) (hO:GOk n outs ins) (ht:t < n)
  (hrm:∀ v x,v < n → x ∈ ins v → Ans Tryz.prog room [int x.k] Rr (fun v=>v = int (rm x.k))) :
  Makes Tryz.prog (fv 101) [.pointer (some ⟨gb,0,none⟩),int t] (γ :: Rr) (fun v ρ=>∃ b D,v = .slice (some ⟨b,0,none⟩) n n ∧ ρ = sng b (.cells (ints D) 3 (0,0)) ∧ IsDist n t (opens n ins rm) D):=by
 have hn:=hO.n1
 obtain ⟨ob,oc,ho,_⟩:=hG.o
 obtain ⟨ib,ic,hi,hil⟩:=hG.i
 refine spec_in (cap:=[]) Tryz.func101 rfl rfl Tryz.ntmps101 rfl envZ (fun N β=>?_)
 refine BX ?_;refine Aal ?_;refine Aad ?_;refine BL ?_;refine Ac8 ?_;refine DO ?_; rintro _ _ ⟨b,rfl,rfl⟩;refine BR ?_; rintro _ _ ⟨b,rfl,rfl⟩;refine BD ?_; rintro _ _ ⟨rfl,rfl⟩;refine Aaj ?_;refine Abd ?_;refine Abh ?_
 rename_i bd
 revert b; intro bo
 rw [show List.replicate n (0:Int) = List.replicate 0 (-1) ++ List.replicate (n - 0) 0 from by simp]
 refine BA [0,1,5,17,18] (0:Nat) (fun k=>k ≤ n) (fun k=>[(19,int k)]) (fun k=>[sng bo (.cells #[.slice (some ⟨bd,0,none⟩) n n] 22 (0,0)),sng bd (.cells (ints (List.replicate k (-1) ++ List.replicate (n - k) 0)) 3 (0,0)),emp]) (fun k=>n - k) pickZ (by omega) covZ selZ ?_
 intro k hk
 have hfl:(List.replicate k (-1:Int) ++ List.replicate (n - k) 0).length = n:=by simp; omega
 by_cases hlt:k < n
 ·have hf:=fillL n k hlt
  refine Aa4 ?_;refine Abt ?_;refine AA ?_;refine Aca ?_;refine BS ?_;refine C1 ?_; rintro _ _ ⟨rfl,rfl⟩;refine Adr ?_
  refine AY (k + 1) (by omega) (by omega) covZ ?_
  rw [← hf];exact selZ
 obtain rfl:k = n:=by omega
 rw [Nat.sub_self,List.replicate_zero,List.append_nil] at hfl ⊢;refine Abr ?_;refine Ac1 ?_;refine BS ?_;refine C1 ?_; rintro _ _ ⟨rfl,rfl⟩;refine Ade ?_;refine BI ?_; rintro _ _ ⟨b,rfl,rfl⟩;refine BR ?_; rintro _ _ ⟨b,rfl,rfl⟩;refine BD ?_; rintro _ _ ⟨rfl,rfl⟩;refine AE ?_;refine Aa ?_;refine BW ?_;refine Aab ?_;refine Aau ?_
 rename_i bi
 revert b; intro bq
 have hq0:OwnO 3 1 (.slice (some ⟨bi,0,none⟩) 1 1) 1 [int t] (sng bi (.cells [int (t:Int)].toArray 3 (0,0))):=OwnS.ownO (n:=1) rfl (by simp [maxLen])
 refine DN [0,1,5,7,8] ((((List.replicate k (-1)).set t 0,[t]),(.slice (some ⟨bi,0,none⟩) 1 1,sng bi (.cells [int (t:Int)].toArray 3 (0,0)))),([],emp)) (X:=((List Int × List Nat) × (Value × PH)) × (List Nat × PH))
  (fun x=>x.2.1.map mk) (fun x=>BInv k t (opens k ins rm) x.1.1.1 x.1.1.2 ∧ OwnO 3 1 x.1.2.1 x.1.1.2.length (qInts x.1.1.2) x.1.2.2 ∧ x.1.1.2.length + unl x.1.1.1 ≤ k ∧ (∀ u,u < k → x.1.1.1.getD u 0 + unl x.1.1.1 ≤ (k:Int)) ∧ MkIn x.2.2 x.2.1)
  (fun _=>[]) (fun x=>[sng bo (.cells #[.slice (some ⟨bd,0,none⟩) k k] 22 (0,0)),sng bd (.cells (ints x.1.1.1) 3 (0,0)),sng bq (.cells #[x.1.2.1] 22 (0,0)),x.1.2.2,x.2.2]) (fun x=>2 * unl x.1.1.1 + x.1.1.2.length)
  pickZ rfl ⟨BInv.start ht,hq0,by have:=unl_start ht; simp only [List.length_singleton]; omega,fun u hu=>by have:=unl_start ht; dsimp only; rw [getD_set (by rw [List.length_replicate]; exact ht),getD_rep hu]; split <;> omega,MkIn.nil⟩ covZ selZ ?_
 rintro ⟨⟨⟨D,q⟩,⟨qv,ρq⟩⟩,⟨ms,μ⟩⟩ ⟨hB,hQ,hql,hub,hM⟩
 dsimp only at hB hQ hql hub hM ⊢
 cases q with
 | nil =>
  have hQ':OwnO 3 1 qv 0 [] ρq:=hQ
  obtain ⟨_,b1,o1,cap1,cur1,rfl,rfl,_⟩:=hQ'
  have hdist:=hB.dist (opens_lt hO)
  refine AC ?_;refine Abd ?_;refine Adw ?_;refine Ad ?_;refine Abd ?_;refine Aab ?_;exact DL hM takeZ (res1 rfl rfl) rsubZ selZ ⟨_,⟨bd,D,rfl,rfl,hdist⟩,rfl⟩
 | cons v q =>
  have hQ':OwnO 3 1 qv (q.length + 1) (int v :: qInts q) ρq:=hQ
  have hV0:=hB.take
  have hvn:=hV0.vn
  obtain ⟨lv,hlv,hls⟩:=hil v hvn
  have hnx:=next_spec bq qv (int v) q.length (qInts q) ρq hQ'
  obtain ⟨b1,o1,cap1,rfl,_,_⟩:=hQ'.head
  simp only [List.length_cons] at hql;refine AC ?_;refine Abd ?_;refine AW ?_;refine CL ?_;refine Aag ?_;refine AK ?_;refine AP ?_;refine Aad ?_;refine BE hnx rfl rfl takesZ rdZ rfl rfl ?_;rintro _ _ ⟨rfl,qv1,hQ1,hq1,rfl⟩;simp only [List.cons_append,List.nil_append];refine BR ?_; rintro _ _ ⟨b,rfl,rfl⟩;refine BD ?_; rintro _ _ ⟨rfl,rfl⟩;refine Aaj ?_
  revert b; intro b9
  refine A5 (.q 0 (.q 1 (.q 2 (.q 3 (.q 4 (.q 5 (.q 6 (.q 7 (.l 8 .e .nil))))))))) [] rfl (by kernel_rfl) selZ ?_
  refine Aa8 ?_;refine Abw ?_;refine AQ ?_;refine Adq ?_;refine CP (DF rfl (open_spec _ _ (SlE.one hls) rfl) rfl rfl rdZ rfl rfl ?_);rintro _ _ ⟨bl,bg,rfl,rfl⟩;simp only [List.cons_append,List.nil_append];refine A6 ?_;refine AR (ρ:=sng bl _) takeZ ?_;refine AR (ρ:=sng bg _) takeZ ?_;refine AR (ρ:=sng b9 _) takeZ ?_
  have hvl:rdc (sng b9 (.cells #[int (v:Int)] 3 (0,0))) b9 0 = some (int v):=by rw [rdc_sng]; rfl
  refine AP ?_
  refine CW (gf:=97) (cap:=[.pointer (some ⟨bl,0,none⟩),.pointer (some ⟨bg,0,none⟩)]) (ps:=[46]) (X:=(List Int × List Nat) × (Value × PH)) rfl Tryz.func97 rfl rfl
   (open_iter γ gb bl bg lv room (ins v) rm Rr hls (by have:=(hO.len v).2; omega) hG.r (fun x hx=>hrm v x hvn hx)) ?_
   (fun i x=>VInv k t (opens k ins rm) x.1.1 v x.1.2 ((openL rm (ins v)).take i) ∧ OwnO 3 1 x.2.1 x.1.2.length (qInts x.1.2) x.2.2 ∧ x.1.2.length + unl x.1.1 + 1 ≤ k ∧ (∀ u,u < k → x.1.1.getD u 0 + unl x.1.1 ≤ (k:Int)) ∧ 2 * unl x.1.1 + x.1.2.length ≤ 2 * unl D + q.length)
   (fun x=>[sng bo (.cells #[.slice (some ⟨bd,0,none⟩) k k] 22 (0,0)),sng bd (.cells (ints x.1.1) 3 (0,0)),sng bq (.cells #[x.2.1] 22 (0,0)),x.2.2])
   (fun _ _=>False) ((D,q),(qv1,ρq)) rfl takesZ ⟨by simpa using hV0,hQ1,by simp only; omega,hub,by simp only; omega⟩ ?_ ?_ ?_
  ·intro σ hσ
   simp only [List.cons_append,List.nil_append,List.mem_cons] at hσ ⊢
   rcases hσ with h | h | h | h <;> simp [h]
  ·rintro l r i ⟨⟨D1,q1⟩,⟨qv2,ρ2⟩⟩ vs hvs ⟨hV,hQ2,hlq,hub2,hms⟩ hps has hbd hst hpe hfr
   dsimp only at hV hQ2 hlq hub2 hms ⊢
   obtain ⟨st,pe,fnn,tm,prm,asg,bdy,df⟩:=r
   simp only at hps has hbd hst hpe hfr;subst hps has hbd hst hpe;rw [List.getElem?_map] at hvs
   obtain ⟨x,hx,rfl⟩:=Option.map_eq_some_iff.1 hvs
   have hlt:i < (openL rm (ins v)).length:=(List.getElem?_eq_some_iff.1 hx).1
   have hxe:(openL rm (ins v))[i] = x:=(List.getElem?_eq_some_iff.1 hx).2
   have hxm:x ∈ openL rm (ins v):=List.mem_of_getElem? hx
   have hxi:x ∈ ins v ∧ 0 < rm x.k:=by unfold openL at hxm; simpa using hxm
   obtain ⟨hxt,hxf,hxk⟩:=hO.inT v x hvn hxi.1
   have htk:(openL rm (ins v)).take (i + 1) = (openL rm (ins v)).take i ++ [x]:=by rw [take_snoc' hlt,hxe]
   have hDl:D1.length = k:=hV.len
   have hv0:=hV.v0
   have hvub:=hub2 v hvn
   refine yield_spec hfr rfl (by intro p hp; simp at hp; omega) putiZ (fun N' β'=>?_)
   unfold encL;refine AA ?_;refine AX ?_; rintro _ _ ⟨b,rfl,rfl⟩;refine AV ?_; rintro _ _ ⟨rfl,rfl⟩;refine Aee ?_;refine CV takeZ rfl ?_
   by_cases hneg:D1.getD x.f 0 < 0
   ·have hE:opens k ins rm x:=⟨by omega,by rw [hxt]; exact hxi.1,hxi.2⟩
    have hp:=hV.push hE hxf hxt hneg
    have hu:=unl_set (D:=D1) (i:=x.f) (x:=D1.getD v 0 + 1) (by omega) hneg (by omega)
    refine AP ?_;refine Abd ?_;refine Aac ?_;refine Adp ?_;refine BC ?_;refine Aag ?_;refine AC ?_
    refine A5 (.q 0 (.q 1 (.q 2 (.q 3 (.q 4 (.q 5 (.q 6 (.q 7 (.q 8 (.l 9 .b .nil)))))))))) [] rfl (by kernel_rfl) selZ ?_
    refine AQ ?_;refine Aar ?_;refine AQ ?_;refine AQ ?_;refine Adq ?_;refine C4 ?_;refine B9 ?_;refine DW ?_; rintro _ _ ⟨rfl,rfl⟩;refine A6 ?_;refine AA ?_;refine AF ?_;refine Aac ?_;refine BI ?_; rintro _ _ ⟨b,rfl,rfl⟩
    refine' BH (EG (by_:=8) (s:=1) (news:=[int (x.f:Int)]) rfl rfl rfl rfl rfl rfl rfl hQ2 takeZ (cells_own memZ) rfl (by (repeat (first | exact (fun v hv=>absurd hv List.not_mem_nil) | (refine List.forall_mem_cons.2 ⟨?_,?_⟩; (focus (first | exact rfl | assumption))))); first | done | fail) (by simp only [maxLen]; omega) (by omega)) rfl rfl rfl _
    rintro q9 _ ⟨ρ3,hQ3,rfl⟩
    have hq9:q9.oneCell' = true:=by obtain ⟨_,_,_,_,_,rfl,_⟩:=hQ3; rfl
    have hQ4:OwnO 3 1 q9 (q1 ++ [x.f]).length (qInts (q1 ++ [x.f])) ρ3:=by
     have:qInts (q1 ++ [x.f]) = qInts q1 ++ [int (x.f:Int)]:=by simp [qInts]
     rw [this,List.length_append];exact hQ3
    refine BD ?_; rintro _ _ ⟨rfl,rfl⟩;refine Aeb ?_;refine BP takeZ rsubZ selZ ⟨((D1.set x.f (D1.getD v 0 + 1),q1 ++ [x.f]),(q9,ρ3)),.inl ⟨rfl,⟨?_,hQ4,?_,?_,?_⟩,rfl⟩⟩
    ·dsimp only
     rw [htk];exact hp
    ·dsimp only
     rw [List.length_append,List.length_singleton]; omega
    ·intro u hu'
     dsimp only
     have:=hub2 u hu'
     rw [getD_set (by omega)]
     split <;> omega
    ·dsimp only
     rw [List.length_append,List.length_singleton]; omega
   ·refine AP ?_
    refine Abd ?_;refine Aac ?_;refine Adp ?_;refine AZ ?_;refine Aai ?_;refine A3 ?_;refine BP takeZ rsubZ selZ ⟨((D1,q1),(qv2,ρ2)),.inl ⟨rfl,⟨?_,hQ2,hlq,hub2,hms⟩,rfl⟩⟩;simp only;rw [htk]
    exact hV.seen (by omega)
  ·rintro b2 ⟨⟨D1,q1⟩,⟨qv2,ρ2⟩⟩ ⟨hV,hQ2,hlq,hub2,hms⟩
   dsimp only at hV hQ2 hlq hub2 hms ⊢
   simp only [List.cons_append,List.nil_append]
   refine DM (R':=β :: γ :: Rr) (by intro σ hσ; simp at hσ ⊢; rcases hσ with h | h | h <;> simp [h]) ?_
   refine CR (b:=b2) takeZ (μ:=μ) takeZ hM ?_
   intro μ2 hM2
   refine A3 ?_;refine A3 ?_
   refine C7 (((D1,q1),(qv2,ρ2)),(b2 :: ms,μ2)) rfl ⟨hV.done (opens_lt hO) (fun x hx hxt=>?_),hQ2,by simp only; omega,hub2,hM2⟩ (by simp only [List.length_cons]; omega) covZ selZ
   have hmem:x ∈ openL rm (ins v):=by
    unfold openL;rw [List.mem_filter]
    have:=hx.2.1
    rw [hxt] at this
    exact ⟨this,by simpa using hx.2.2⟩
   simpa [List.length_map] using hmem
  ·rintro _ _ _ h; exact h.elim
end Go.Proofs.YtphehihohghfoaaGreat
/- The first shortest path, and the least room on it. -/
namespace Go.Proofs.YtphehihohghfoaaGreat
open Go.Eng Go.Flow
set_option maxRecDepth 100000
set_option maxHeartbeats 4000000

def ksOf (p:List Lk):List Int:=p.map (fun (x:Lk)=>(x.k:Int))
def nxO (outs:Nat → List Lk) (rm:Nat → Int) (D:List Int) (v:Nat):Option Lk:=(openL rm (outs v)).find? (near D v)
theorem nxO_some {n t:Nat} {outs ins:Nat → List Lk} {rm:Nat → Int} {D:List Int} (hO:GOk n outs ins) (hD:IsDist n t (opens n ins rm) D) {v:Nat} (hv:v < n) (hd:0 < D.getD v 0) :
  ∃ x,nxO outs rm D v = some x ∧ x.f = v ∧ x.t < n ∧ x.k ≤ 40000 ∧ D.getD x.t 0 = D.getD v 0 - 1 ∧ opens n ins rm x:=by
 obtain ⟨y,hy,hyf,hyt⟩:=hD.step v hv hd
 have hyn:=opens_lt hO y hy
 have hyo:y ∈ outs v:=by
  have:=(hO.same y hyn.1 hyn.2).2 hy.2.1
  rwa [hyf] at this
 have hmem:y ∈ openL rm (outs v):=by
  unfold openL;rw [List.mem_filter]
  exact ⟨hyo,by simpa using hy.2.2⟩
 cases e:nxO outs rm D v with
 | none =>
  unfold nxO at e;rw [List.find?_eq_none] at e
  exact absurd (by unfold near; rw [hyt]; simp) (e y hmem)
 | some x =>
  have hm:=List.mem_of_find?_eq_some e
  have hp:=List.find?_some e
  unfold openL at hm;rw [List.mem_filter] at hm
  obtain ⟨h1,h2,h3⟩:=hO.outF v x hv hm.1
  refine ⟨x,rfl,h1,h2,h3,by simpa [near] using hp,h2,(hO.same x (by omega) h2).1 (by rw [h1]; exact hm.1),by simpa using hm.2⟩
set_option maxHeartbeats 2000000 in
theorem path_spec (γ:PH) (gb n s t:Nat) (outs ins:Nat → List Lk) (room:Value) (rm:Nat → Int) (Rr:List PH) (hG:GAt γ gb n outs ins room) (hO:GOk n outs ins) (hs:s < n) (ht:t < n)
  (hrm:∀ v x,v < n → x ∈ ins v → Ans Tryz.prog room [int x.k] Rr (fun v=>v = int (rm x.k))) :
  Makes Tryz.prog (fv 69) [.pointer (some ⟨gb,0,none⟩),int s,int t] (γ :: Rr) (fun v ρ=>∃ D pv,IsDist n t (opens n ins rm) D ∧ v = .tuple #[pv,.bool (decide (0 ≤ D.getD s 0))] ∧
   OwnS 3 1 pv (pathD (nxO outs rm D) D s).length ((ksOf (pathD (nxO outs rm D) D s)).map int) ρ):=by
 have hn:=hO.n1
 obtain ⟨ob,oc,ho,hol⟩:=hG.o
 refine spec_in (cap:=[]) Tryz.func69 rfl rfl Tryz.ntmps69 rfl envZ (fun N β=>?_)
 refine BX ?_;refine Acc ?_;refine Abp ?_;refine BZ (distances_spec γ gb n t outs ins room rm Rr hG hO ht hrm) rfl rfl rdZ rfl rfl ?_;rintro _ ρD ⟨bD,D,rfl,rfl,hD⟩
 have hDl:=hD.len
 refine BR ?_; rintro _ _ ⟨b,rfl,rfl⟩;refine BD ?_; rintro _ _ ⟨rfl,rfl⟩;refine Aaj ?_;refine Ac1 ?_;refine Adp ?_
 revert b; intro b8
 by_cases hneg:D.getD s 0 < 0
 ·refine BC ?_
  refine Aag ?_;refine Acc ?_;refine AI (res2 rfl rfl rfl) rsubZ selZ ⟨emp,⟨D,.slice none 0 0,hD,?_,?_⟩,rfl⟩
  ·rw [show decide (0 ≤ D.getD s 0) = false from decide_eq_false (by omega)]
  ·rw [pathD_end (by omega)]
   exact OwnS.nil _ _
 refine AZ ?_;refine Aai ?_;refine Aa ?_;refine BR ?_; rintro _ _ ⟨b,rfl,rfl⟩;refine Aaj ?_;refine Aad ?_;refine BR ?_; rintro _ _ ⟨b,rfl,rfl⟩;refine BD ?_; rintro _ _ ⟨rfl,rfl⟩;refine AE ?_;refine AP ?_
 rename_i b9
 revert b; intro b10
 refine AR (ρ:=sng b8 _) takeZ ?_;refine AR (ρ:=sng bD _) takeZ ?_
 have c8:rdc (sng b8 (.cells #[.slice (some ⟨bD,0,none⟩) n n] 22 (0,0))) b8 0 = some (.slice (some ⟨bD,0,none⟩) n n):=by rw [rdc_sng]; rfl
 have hub:=hD.lt (opens_lt hO) ht hs
 refine BX ?_
 refine DN [0,1,2,8,9] (((([]:List Lk),s),((.slice none 0 0,emp),b10)),([],emp)) (X:=((List Lk × Nat) × ((Value × PH) × Nat)) × (List Nat × PH))
  (fun x=>x.2.1.map mk) (fun x=>x.1.1.2 < n ∧ 0 ≤ D.getD x.1.1.2 0 ∧ pathD (nxO outs rm D) D s = x.1.1.1 ++ pathD (nxO outs rm D) D x.1.1.2 ∧ OwnS 3 1 x.1.2.1.1 x.1.1.1.length ((ksOf x.1.1.1).map int) x.1.2.1.2 ∧ x.1.1.1.length + (D.getD x.1.1.2 0).toNat ≤ n ∧ MkIn x.2.2 x.2.1)
  (fun x=>[(10,.pointer (some ⟨x.1.2.2,0,none⟩))]) (fun x=>[sng x.1.2.2 (.cells #[int (x.1.1.2:Int)] 3 (0,0)),sng b9 (.cells #[x.1.2.1.1] 22 (0,0)),x.1.2.1.2,x.2.2]) (fun x=>(D.getD x.1.1.2 0).toNat)
  pickZ rfl ⟨hs,by dsimp only; omega,rfl,OwnS.nil _ _,by dsimp only [List.length_nil]; omega,MkIn.nil⟩ covZ selZ ?_
 rintro ⟨⟨⟨pre,v⟩,⟨⟨pv,ρp⟩,bv⟩⟩,⟨ms,μ⟩⟩ ⟨hv,hd0,hpre,hP,hln,hM⟩
 dsimp only at hv hd0 hpre hP hln hM ⊢
 by_cases hvt:v = t
 ·refine AC ?_
  refine Ac1 ?_;refine BF ?_;refine Ad ?_;refine Abd ?_;refine Aan ?_;refine DL hM takeZ (res2 rfl rfl rfl) rsubZ selZ ⟨ρp,⟨D,pv,hD,?_,?_⟩,rfl⟩
  ·rw [show decide (0 ≤ D.getD s 0) = true from decide_eq_true (by omega)]
   rfl
  ·rw [hpre,pathD_end (by rw [hvt,hD.at0]; omega),List.append_nil]
   exact hP
 ·have hdv:0 < D.getD v 0:=by
   by_cases h0:D.getD v 0 = 0
   ·exact absurd (hD.zero v hv h0) hvt
   ·omega
  obtain ⟨x0,hx0,hx0f,hx0t,hx0k,hx0d,_⟩:=nxO_some hO hD hv hdv
  obtain ⟨lv,hlv,hls⟩:=hol v hv
  refine AC ?_;refine Ac1 ?_;refine CF ?_;refine Ack ?_;refine AC ?_
  refine A5 (.q 0 (.q 1 (.q 2 (.q 3 (.q 4 (.q 5 (.q 6 (.q 7 (.l 8 .e .nil))))))))) [] rfl (by kernel_rfl) selZ ?_
  refine Aa8 ?_;refine Abw ?_;refine AQ ?_;refine Adq ?_;refine CP (DF rfl (open_spec _ _ (SlE.one hls) rfl) rfl rfl rdZ rfl rfl ?_);rintro _ _ ⟨bl,bg,rfl,rfl⟩;simp only [List.cons_append,List.nil_append];refine A6 ?_;refine AR (ρ:=sng bl _) takeZ ?_;refine AR (ρ:=sng bg _) takeZ ?_;refine AP ?_
  refine CW (gf:=97) (cap:=[.pointer (some ⟨bl,0,none⟩),.pointer (some ⟨bg,0,none⟩)]) (ps:=[33]) (X:=(Value × PH) × Nat) rfl Tryz.func97 rfl rfl
   (open_iter γ gb bl bg lv room (outs v) rm Rr hls (by have:=(hO.len v).1; omega) hG.r (fun x hx=>by
    obtain ⟨h1,h2,_⟩:=hO.outF v x hv hx
    exact hrm x.t x h2 ((hO.same x (by omega) h2).1 (by rw [h1]; exact hx)))) ?_
   (fun i x=>x = ((pv,ρp),v) ∧ ∀ y ∈ (openL rm (outs v)).take i,near D v y = false)
   (fun x=>[sng bv (.cells #[int (x.2:Int)] 3 (0,0)),sng b9 (.cells #[x.1.1] 22 (0,0)),x.1.2])
   (fun c x=>c = .exit 2 ∧ x.2 = x0.t ∧ OwnS 3 1 x.1.1 (pre ++ [x0]).length ((ksOf (pre ++ [x0])).map int) x.1.2) ((pv,ρp),v) rfl takesZ ⟨rfl,by simp⟩ ?_ ?_ ?_
  ·intro σ hσ
   simp only [List.cons_append,List.nil_append,List.mem_cons] at hσ ⊢
   rcases hσ with h | h | h | h <;> simp [h]
  ·rintro l r i x' vs hvs ⟨rfl,hno⟩ hps has hbd hst hpe hfr
   dsimp only at hno ⊢
   obtain ⟨st,pe,fnn,tm,prm,asg,bdy,df⟩:=r
   simp only at hps has hbd hst hpe hfr;subst hps has hbd hst hpe;rw [List.getElem?_map] at hvs
   obtain ⟨x,hx,rfl⟩:=Option.map_eq_some_iff.1 hvs
   have hlt:i < (openL rm (outs v)).length:=(List.getElem?_eq_some_iff.1 hx).1
   have hxe:(openL rm (outs v))[i] = x:=(List.getElem?_eq_some_iff.1 hx).2
   have hxm:x ∈ openL rm (outs v):=List.mem_of_getElem? hx
   have hxi:x ∈ outs v ∧ 0 < rm x.k:=by unfold openL at hxm; simpa using hxm
   obtain ⟨hxf,hxt,hxk⟩:=hO.outF v x hv hxi.1
   have htk:(openL rm (outs v)).take (i + 1) = (openL rm (outs v)).take i ++ [x]:=by rw [take_snoc' hlt,hxe]
   have hvub:=hD.lt (opens_lt hO) ht hv
   have hxlo:=hD.low x.t hxt
   have hxub:=hD.lt (opens_lt hO) ht hxt
   refine yield_spec hfr rfl (by intro p hp; simp at hp; omega) putiZ (fun N' β'=>?_)
   unfold encL;refine AA ?_;refine AX ?_; rintro _ _ ⟨b,rfl,rfl⟩;refine AV ?_; rintro _ _ ⟨rfl,rfl⟩;refine Aee ?_;refine CV takeZ rfl ?_;refine AP ?_;refine AC ?_
   refine A5 (.q 0 (.q 1 (.q 2 (.q 3 (.q 4 (.q 5 (.q 6 (.q 7 (.q 8 (.q 9 (.q 10 .nil))))))))))) [] rfl (by kernel_rfl) selZ ?_
   by_cases hnr:D.getD x.t 0 = D.getD v 0 - 1
   ·have hfx:nxO outs rm D v = some x:=find_of_take hx (by unfold near; rw [hnr]; simp) hno
    obtain rfl:x0 = x:=by rw [hfx] at hx0; exact (Option.some.inj hx0).symm
    refine AQ ?_;refine Aar ?_;refine Adq ?_;refine AQ ?_;refine AQ ?_;refine Adq ?_;refine E1 ?_;refine EK ?_;refine Abs ?_;refine AC ?_
    have hpv:pv.oneCell' = true:=SlE.one (ownInts (e:=3) (l:=ksOf pre) (ρ:=ρp) (by rw [show (ksOf pre).length = pre.length from by simp [ksOf]]; exact hP))
    refine A5 (.q 0 (.q 1 (.q 2 (.p 5 (.p 6 (.l 3 .e (.l 4 .b (.l 7 .b (.l 8 .b .nil))))))))) [sng b (.cells #[int (x0.k:Int),int (x0.f:Int),int (x0.t:Int)] 123 (0,0))] rfl (by kernel_rfl) selZ ?_
    refine AQ ?_;refine Aar ?_;refine FM ?_;refine FL ?_;refine B0 ?_; rintro _ _ ⟨b,rfl,rfl⟩;refine CP ?_;refine' a_b rfl _ rfl rfl rfl _ _
    rotate_left
    ·exact B5 (by_:=8) (s:=1) (news:=[int (x0.k:Int)]) rfl rfl rfl rfl rfl rfl rfl hP takeZ (cells_own memZ) rfl (by (repeat (first | exact (fun v hv=>absurd hv List.not_mem_nil) | (refine List.forall_mem_cons.2 ⟨?_,?_⟩; (focus (first | exact rfl | assumption))))); first | done | fail) (by omega) (by simp only [maxLen]; omega) (by omega)
    ·rintro _ _ ⟨_,_,rfl⟩ w hw; exact hw.sel selZ
    rintro q9 _ ⟨ρ3,hQ3,rfl⟩
    have hQ4:OwnS 3 1 q9 (pre ++ [x0]).length ((ksOf (pre ++ [x0])).map int) ρ3:=by
     have:(ksOf (pre ++ [x0])).map int = (ksOf pre).map int ++ [int (x0.k:Int)]:=by simp [ksOf]
     rw [this,List.length_append];exact hQ3
    have hq9:q9.oneCell' = true:=SlE.one (ownInts (e:=3) (l:=ksOf (pre ++ [x0])) (ρ:=ρ3) (by rw [show (ksOf (pre ++ [x0])).length = (pre ++ [x0]).length from by simp [ksOf]]; exact hQ4))
    refine DB ?_; rintro _ _ ⟨rfl,rfl⟩;refine DB ?_; rintro _ _ ⟨rfl,rfl⟩;refine A6 ?_
    skip
    exact EF rfl takeZ rsubZ selZ ⟨((q9,ρ3),x0.t),.inr ⟨rfl,.exit 2,⟨rfl,rfl,hQ4⟩,rfl⟩⟩
   ·refine AQ ?_
    refine Aar ?_;refine Adq ?_;refine AQ ?_;refine AQ ?_;refine Adq ?_;refine E1 ?_;refine C3 ?_;refine Abu ?_;refine A3 ?_;refine BP takeZ rsubZ selZ ⟨((pv,ρp),v),.inl ⟨rfl,⟨rfl,?_⟩,rfl⟩⟩;rw [htk]
    intro y hy
    rcases List.mem_append.1 hy with hy | hy
    ·exact hno y hy
    ·rw [List.mem_singleton.1 hy]
     exact decide_eq_false hnr
  ·rintro b2 x' ⟨rfl,hno⟩
   exfalso
   have hm:=List.mem_of_find?_eq_some hx0
   have hp:=List.find?_some hx0
   rw [hno x0 (by simpa [List.length_map] using hm)] at hp
   simp at hp
  ·rintro b2 c ⟨⟨pv2,ρ2⟩,v2⟩ ⟨rfl,hv2,hP2⟩
   dsimp only at hv2 hP2 ⊢
   subst hv2;simp only [List.cons_append,List.nil_append]
   refine DM (R':=sng bD (.cells (ints D) 3 (0,0)) :: sng b8 (.cells #[.slice (some ⟨bD,0,none⟩) n n] 22 (0,0)) :: β :: γ :: Rr) (by intro σ hσ; simp at hσ ⊢; rcases hσ with h | h | h | h | h <;> simp [h]) ?_
   refine CR (b:=b2) takeZ (μ:=μ) takeZ hM ?_
   intro μ2 hM2
   refine A7 rfl ?_;refine A3 ?_;refine Abd ?_;refine Ady ?_;refine BR ?_; rintro _ _ ⟨b,rfl,rfl⟩;refine BD ?_; rintro _ _ ⟨rfl,rfl⟩;refine AE ?_
   refine C7 (((pre ++ [x0],x0.t),((pv2,ρ2),b)),(b2 :: ms,μ2)) rfl ⟨hx0t,by dsimp only; omega,?_,hP2,?_,hM2⟩ (by dsimp only; omega) covZ selZ
   ·dsimp only
    rw [hpre,pathD_step hx0 hdv hx0d,List.append_assoc]; rfl
   ·dsimp only
    rw [List.length_append,List.length_singleton]; omega
end Go.Proofs.YtphehihohghfoaaGreat
/- The least room on a path; graphs: new, a link added; the room of a residual arc. -/
namespace Go.Proofs.YtphehihohghfoaaGreat
open Go.Eng Go.Flow
set_option maxRecDepth 100000
set_option maxHeartbeats 4000000

theorem least_spec (γ ρ:PH) (gb:Nat) (room pv:Value) (rm:Nat → Int) (Rr:List PH) (p:List Lk) (hG:rdc γ gb 2 = some room) (hp:IntsAt ρ pv (ksOf p)) (hl:p.length ≤ 100000)
  (hrm:∀ x ∈ p,Ans Tryz.prog room [int x.k] Rr (fun v=>v = int (rm x.k))) :
  Ans Tryz.prog (fv 70) [.pointer (some ⟨gb,0,none⟩),pv] (γ :: ρ :: Rr) (fun v=>v = int (leastR rm p)):=by
 obtain ⟨q,c,rfl,hr⟩:=hp.val Eng.encI_len
 have hkl:(ksOf p).length = p.length:=by simp [ksOf]
 refine spec_in (cap:=[]) Tryz.func70 rfl rfl Tryz.ntmps70 rfl envZ (fun N β=>?_)
 refine Aal ?_;refine Adj ?_
 refine BA [0,1,8,9] ((0,1099511627776):Nat × Int) (fun x=>x.1 ≤ p.length ∧ x.2 = leastR rm (p.take x.1)) (fun x=>[(5,int x.2),(10,int x.1)]) (fun _=>[]) (fun x=>p.length - x.1) pickZ ⟨by simp,by simp [leastR]⟩ covZ selZ ?_
 rintro ⟨k,y⟩ ⟨hk,hy⟩;simp only at hk hy
 by_cases hlt:k < p.length
 ·have hx:(ksOf p)[k]? = some (p[k].k:Int):=by simp [ksOf,hlt]
  obtain ⟨b,o,rfl,h0⟩:=hr.int hx
  have hcall:=hrm p[k] (List.getElem_mem hlt)
  refine Adl ?_;refine Aab ?_;refine AA ?_;refine Aaz ?_;refine Adi ?_;refine AB ?_
  focus ((refine A2 hcall rfl rfl (fun τ hτ=>.inl (by simp [hτ])) rfl rfl ?_; rintro v rfl))
  refine FP ?_;refine Aab ?_;refine Aa2 ?_
  refine AY (k + 1,_) ⟨by simp only; omega,?_⟩ (by simp only; omega) covZ selZ
  simp only;rw [take_snoc' hlt,leastR_snoc,← hy]
 ·refine AC ?_
  refine Ad0 ?_;refine Abt ?_;refine AI (res1 rfl rfl) rsubZ selZ ⟨rfl,?_⟩
  rw [hy,List.take_of_length_le (by omega)]

abbrev gHead (gb ob ib n:Nat) (room:Value):PH:=sng gb (.cells #[.slice (some ⟨ob,0,none⟩) n n,.slice (some ⟨ib,0,none⟩) n n,room] 121 (0,0))
abbrev gRow (b:Nat) (vs:List Value):PH:=sng b (.cells vs.toArray 117 (0,0))
theorem newGraph_spec (n:Nat) (f:Nat) (cap:List Value) (hn:n ≤ 2000) :
  Eng.Spec Tryz.prog (fv 66) [int n,.func (.func f) #[] cap.toArray] [] [] (fun v H'=>∃ gb ob ib,v = .pointer (some ⟨gb,0,none⟩) ∧
   H' = [gHead gb ob ib n (.func (.func f) #[] cap.toArray),gRow ob (List.replicate n (.slice none 0 0)),gRow ib (List.replicate n (.slice none 0 0))]):=by
 refine spec_in (cap:=[]) Tryz.func66 rfl rfl Tryz.ntmps66 rfl envZ (fun N β=>?_)
 refine Aal ?_;refine AC ?_
 refine A5 (.q 0 (.q 2 (.q 4 (.l2 1 .e (.l 3 .e (.q 5 (.l 6 .e (.q 7 .nil)))) 3 .e (.l 1 .e (.q 5 (.l 6 .e (.q 7 .nil)))))))) [] rfl (by kernel_rfl) selZ ?_
 repeat' (first
  | (refine AS ?_)
  | (refine BT ?_)
  | (refine CQ ?_)
  | (refine A6 ?_)
  | (refine FW ?_ ?_)
  | (refine F5 ?_; rintro _ _ ⟨b,rfl,rfl⟩)
  | (refine FR ?_; rintro _ _ ⟨b,rfl,rfl⟩)
  | (refine F4 ?_; rintro _ _ ⟨b,rfl,rfl⟩)
  | fail)
 repeat' (first
  | fail)
 all_goals exact AI (res1 rfl rfl) rsubZ selZ ⟨_,_,_,rfl,rfl⟩
theorem OwnS.one {e:TypeId} {size:Nat} {v:Value} {n:Nat} {xs:List Value} {ρ:PH} (h:OwnS e size v n xs ρ):v.oneCell' = true:=by
 obtain ⟨b,c,rfl⟩:=h.at.cap
 rfl
set_option maxHeartbeats 4000000 in
theorem add_spec (gb ob ib n k f t:Nat) (room:Value) (ov iv:List Value) (lo li:List Lk) (ρo ρi:PH) (hov:ov.length = n) (hiv:iv.length = n) (hf:f < n) (ht:t < n)
  (ho:∃ u,ov[f]? = some u ∧ OwnS 123 3 u lo.length (lo.flatMap encL) ρo) (hi:∃ u,iv[t]? = some u ∧ OwnS 123 3 u li.length (li.flatMap encL) ρi) (hlo:lo.length ≤ 40000) (hli:li.length ≤ 40000) :
  Eng.Spec Tryz.prog (fv 68) [.pointer (some ⟨gb,0,none⟩),int k,int f,int t] [] [gHead gb ob ib n room,gRow ob ov,gRow ib iv,ρo,ρi] (fun v H'=>v = .tuple #[] ∧ ∃ q1 q2 ρ1 ρ2,
   OwnS 123 3 q1 (lo ++ [(⟨k,f,t⟩:Lk)]).length ((lo ++ [(⟨k,f,t⟩:Lk)]).flatMap encL) ρ1 ∧ OwnS 123 3 q2 (li ++ [(⟨k,f,t⟩:Lk)]).length ((li ++ [(⟨k,f,t⟩:Lk)]).flatMap encL) ρ2 ∧
   H' = [gHead gb ob ib n room,gRow ob (ov.set f q1),gRow ib (iv.set t q2),ρ1,ρ2]):=by
 obtain ⟨uo,huo,hO⟩:=ho
 obtain ⟨ui,hui,hI⟩:=hi
 have co:rdc (gRow ob ov) ob f = some uo:=by rw [rdc_sng]; simpa using huo
 have ci:rdc (gRow ib iv) ib t = some ui:=by rw [rdc_sng]; simpa using hui
 refine spec_in (cap:=[]) Tryz.func68 rfl rfl Tryz.ntmps68 rfl envZ (fun N β=>?_)
 refine Aad ?_;refine Aaz ?_;refine BO ?_;refine AX ?_; rintro _ _ ⟨b,rfl,rfl⟩;refine AV ?_; rintro _ _ ⟨rfl,rfl⟩;refine AE ?_
 refine A5 (.p 0 (.p 1 (.p 2 (.p 3 (.p 4 (.p 5 (.p 6 (.p 7 (.p 8 (.p 9 (.q 10 (.q 11 (.q 12 (.q 13 (.q 14 (.q 15 (.q 16 (.q 17 (.p 20 (.p 21 (.p 22 (.p 23 (.p 24 (.p 25 (.p 26 (.p 27 (.l2 18 .e (.l2 19 .b (.l 28 .e (.l 29 .b (.q 30 (.l 31 .b (.q 32 (.l 33 .b .nil)))))) 28 .e (.l 19 .b (.l 29 .b (.q 30 (.l 31 .b (.q 32 (.l 33 .b .nil))))))) 28 .e (.l 18 .e (.l 19 .b (.l 29 .b (.q 30 (.l 31 .b (.q 32 (.l 33 .b .nil)))))))))))))))))))))))))))))))))) [gHead gb ob ib n room,gRow ib iv,sng b (.cells #[int (k:Int),int (f:Int),int (t:Int)] 123 (0,0))] rfl (by kernel_rfl) selZ ?_
 repeat' (first
  | (refine AS ?_)
  | (refine AQ ?_)
  | (refine AU ?_)
  | (refine B9 ?_)
  | (refine A0 ?_)
  | (refine BN ?_)
  | (refine FK ?_)
  | (refine FL ?_)
  | (refine FM ?_)
  | (refine GO ?_)
  | (refine ER ?_)
  | (refine FZ ?_)
  | (refine FW ?_ ?_)
  | (refine B0 ?_; rintro _ _ ⟨b,rfl,rfl⟩)
  | (refine D9 ?_; rintro _ _ ⟨b,rfl,rfl⟩)
  | fail)
 all_goals (try refine CP ?_)
 all_goals (refine' a_b rfl _ rfl rfl rfl _ _; rotate_left; (focus (exact B5 (by_:=24) (s:=3) (news:=[int (k:Int),int (f:Int),int (t:Int)]) rfl rfl rfl rfl rfl rfl rfl hO takeZ (cells_own memZ) rfl (by (repeat (first | exact (fun v hv=>absurd hv List.not_mem_nil) | (refine List.forall_mem_cons.2 ⟨?_,?_⟩; (focus (first | exact rfl | assumption))))); first | done | fail) (by omega) (by simp only [maxLen]; omega) (by omega))); (focus (rintro _ _ ⟨_,_,rfl⟩ w hw; exact hw.sel selZ)); rintro q1 _ ⟨ρ1,hQ1,rfl⟩)
 repeat' (first
  | (refine B0 ?_; rintro _ _ ⟨b,rfl,rfl⟩)
  | fail)
 all_goals (refine CP ?_; refine' a_b rfl _ rfl rfl rfl _ _; rotate_left; (focus (exact B5 (by_:=24) (s:=3) (news:=[int (k:Int),int (f:Int),int (t:Int)]) rfl rfl rfl rfl rfl rfl rfl hI takeZ (cells_own memZ) rfl (by (repeat (first | exact (fun v hv=>absurd hv List.not_mem_nil) | (refine List.forall_mem_cons.2 ⟨?_,?_⟩; (focus (first | exact rfl | assumption))))); first | done | fail) (by omega) (by simp only [maxLen]; omega) (by omega))); (focus (rintro _ _ ⟨_,_,rfl⟩ w hw; exact hw.sel selZ)); rintro q2 _ ⟨ρ2,hQ2,rfl⟩)
 all_goals have h1:q1.oneCell' = true:=OwnS.one hQ1
 all_goals have h2:q2.oneCell' = true:=OwnS.one hQ2
 repeat' (first
  | (refine B9 ?_)
  | (refine F6 ?_; rintro _ _ ⟨rfl,rfl⟩)
  | fail)
 all_goals (refine CP ?_; refine' a_full rfl _ rfl (.inr ⟨rfl,rfl⟩) (by kernel_rfl) (Hf':=[]) _ _; rotate_left; (focus (apply C5; exact rfl; exact rfl; exact h2; exact rfl; exact takeZ; (simp; omega))); (focus (rintro _ _ ⟨_,rfl⟩ w hw; exact hw.sel selZ)); rintro _ _ ⟨rfl,rfl⟩)
 repeat' (first
  | (refine A6 ?_)
  | fail)
 repeat' (first
  | fail)
 all_goals have e1:sng ob (.cells (ov.toArray.setIfInBounds f q1) 117 (0,0)) = gRow ob (ov.set f q1):=by simp [gRow]
 all_goals have e2:sng ib (.cells (iv.toArray.setIfInBounds t q2) 117 (0,0)) = gRow ib (iv.set t q2):=by simp [gRow]
 all_goals rw [e1,e2]
 all_goals refine B8 (H':=[gHead gb ob ib n room,gRow ob (ov.set f q1),gRow ib (iv.set t q2),ρ1,ρ2]) (res0 rfl) rsubZ selZ ⟨rfl,q1,q2,ρ1,ρ2,?_,?_,rfl⟩
 all_goals first
  | (rw [List.flatMap_append,List.length_append]; exact hQ1)
  | (rw [List.flatMap_append,List.length_append]; exact hQ2)

end Go.Proofs.YtphehihohghfoaaGreat
/- The rooms of residual arcs; residual graphs. -/
namespace Go.Proofs.YtphehihohghfoaaGreat
open Go.Eng Go.Flow
set_option maxRecDepth 100000
set_option maxHeartbeats 4000000

theorem residual1_spec (ρ:PH) (v:Value) (b1 b2 bf m c k:Nat) (T1 T2 T3:TypeId) (l:List Arc) (fl:List Int) (hv:ArcsAt ρ v l) (hfl:fl.length = l.length) (hm:m = l.length) (hk:k < 2 * l.length) (hl:l.length ≤ 20000)
  (hc:inCap l fl = true) (hok:∀ a ∈ l,0 ≤ a.c ∧ a.c ≤ 1099511627776) :
  Ans Tryz.prog (.func (.func 130) #[] #[.pointer (some ⟨b1,0,none⟩),.pointer (some ⟨b2,0,none⟩)]) [int k] [ρ,sng b1 (.cells #[v] T1 (0,0)),sng b2 (.cells #[.slice (some ⟨bf,0,none⟩) m c] T2 (0,0)),sng bf (.cells (ints fl) T3 (0,0))]
   (fun r=>r = int (rmR l fl k)):=by
 obtain ⟨q,c',rfl,hr⟩:=hv.val encA_len
 subst hm
 have c1:rdc (sng b1 (.cells #[.slice q l.length c'] T1 (0,0))) b1 0 = some (.slice q l.length c'):=by rw [rdc_sng]; rfl
 have c2:rdc (sng b2 (.cells #[.slice (some ⟨bf,0,none⟩) l.length c] T2 (0,0))) b2 0 = some (.slice (some ⟨bf,0,none⟩) l.length c):=by rw [rdc_sng]; rfl
 have hlt:k / 2 < l.length:=by omega
 have hx:=List.getElem?_eq_getElem hlt
 obtain ⟨b,o,rfl,hA,h0,h1,h2⟩:=arcRow hr hx
 have hfx:fl.getD (k / 2) 0 = fl[k / 2]:=by simp [List.getD_eq_getElem?_getD,show k / 2 < fl.length by omega]
 have hfy:=inCap_get l fl hc (k / 2) l[k / 2] fl[k / 2] hx (List.getElem?_eq_getElem (by omega))
 have hcy:=hok l[k / 2] (List.getElem_mem hlt)
 have hdef:l.getD (k / 2) default = l[k / 2]:=by simp [List.getD_eq_getElem?_getD,hlt]
 have e2:((k:Int) / 2) = ((k / 2:Nat):Int):=by omega
 have e3:((k:Int) % 2) = ((k % 2:Nat):Int):=by omega
 refine spec_in (cap:=[.pointer (some ⟨b1,0,none⟩),.pointer (some ⟨b2,0,none⟩)]) Tryz.func130 rfl rfl Tryz.ntmps130 rfl envZ (fun N β=>?_)
 by_cases hp:k % 2 = 0
 ·refine AC ?_
  refine AA ?_;refine Adt ?_;refine E3 ?_;refine CI ?_;refine Aag ?_;refine AC ?_
  refine A5 (.q 0 (.q 1 (.q 2 (.q 3 (.q 4 (.q 5 (.q 6 (.q 7 (.q 8 (.q 9 (.q 10 (.q 11 (.q 12 .nil))))))))))))) [] rfl (by kernel_rfl) selZ ?_
  refine AQ ?_;refine AS ?_;refine FO ?_;refine BJ ?_;refine Acb ?_;refine AQ ?_;refine AS ?_;refine FO ?_;refine Adq ?_;refine E1 ?_;refine Adx ?_
  skip
  refine AI (res1 rfl rfl) rsubZ selZ ⟨rfl,?_⟩;unfold rmR;rw [if_pos hp,hdef]
 ·refine AC ?_
  refine AA ?_;refine Adt ?_;refine E3 ?_;refine B4 ?_;refine Aai ?_;refine Ac1 ?_;refine ES ?_;refine Adp ?_;refine Aab ?_;refine AI (res1 rfl rfl) rsubZ selZ ⟨rfl,?_⟩;unfold rmR;rw [if_neg hp]
end Go.Proofs.YtphehihohghfoaaGreat
/- A graph that is built link by link; the residual graph. -/
namespace Go.Proofs.YtphehihohghfoaaGreat
open Go.Eng Go.Flow
set_option maxRecDepth 100000
set_option maxHeartbeats 4000000

def RowOK (n:Nat) (vs:List Value) (cs:List PH) (lf:Nat → List Lk):Prop:=
 vs.length = n ∧ cs.length = n ∧ ∀ v,v < n → ∃ u ρ,vs[v]? = some u ∧ cs[v]? = some ρ ∧ OwnS 123 3 u (lf v).length ((lf v).flatMap encL) ρ
theorem RowOK.set {n:Nat} {vs:List Value} {cs:List PH} {lf lf':Nat → List Lk} (h:RowOK n vs cs lf) {f:Nat} {u:Value} {ρ:PH} (hu:OwnS 123 3 u (lf' f).length ((lf' f).flatMap encL) ρ) (he:∀ v,v ≠ f → lf' v = lf v) :
  RowOK n (vs.set f u) (cs.set f ρ) lf':=by
 obtain ⟨h1,h2,h3⟩:=h
 refine ⟨by simp [h1],by simp [h2],fun v hv=>?_⟩
 by_cases e:v = f
 ·subst e
  exact ⟨u,ρ,by simp [h1,hv],by simp [h2,hv],hu⟩
 ·obtain ⟨u',ρ',g1,g2,g3⟩:=h3 v hv
  rw [← he v e] at g3
  exact ⟨u',ρ',by rw [List.getElem?_set_ne (Ne.symm e)]; exact g1,by rw [List.getElem?_set_ne (Ne.symm e)]; exact g2,g3⟩
def GBl (gb ob ib n:Nat) (room:Value) (ls:List Lk) (H:List PH):Prop:=
 ∃ ov iv oc ic,RowOK n ov oc (outsOf ls) ∧ RowOK n iv ic (insOf ls) ∧ H = gHead gb ob ib n room :: gRow ob ov :: gRow ib iv :: (oc ++ ic)
theorem add_bl {gb ob ib n:Nat} {room:Value} {ls:List Lk} {H:List PH} (h:GBl gb ob ib n room ls H) (k f t:Nat) (hf:f < n) (ht:t < n) (hl:ls.length ≤ 40000) :
  Eng.Spec Tryz.prog (fv 68) [.pointer (some ⟨gb,0,none⟩),int k,int f,int t] [] H (fun v H'=>v = .tuple #[] ∧ GBl gb ob ib n room (ls ++ [(⟨k,f,t⟩:Lk)]) H'):=by
 obtain ⟨ov,iv,oc,ic,ho,hi,rfl⟩:=h
 obtain ⟨uo,ρo,a1,a2,a3⟩:=ho.2.2 f hf
 obtain ⟨ui,ρi,c1,c2,c3⟩:=hi.2.2 t ht
 have hs:=add_spec gb ob ib n k f t room ov iv (outsOf ls f) (insOf ls t) ρo ρi ho.1 hi.1 hf ht ⟨uo,a1,a3⟩ ⟨ui,c1,c3⟩ (filter_le _ _ hl) (filter_le _ _ hl)
 refine Spec.perm ?_ (hs.frame (oc.eraseIdx f ++ ic.eraseIdx t)) ?_
 ·simp only [List.cons_append,List.nil_append]
  refine ((List.Perm.trans ?_ ((erase_get_perm a2).append (erase_get_perm c2)).symm).cons _).cons _ |>.cons _;simp only [List.cons_append];exact (List.perm_middle.symm).cons _
 ·rintro v H1 ⟨H2,rfl,rfl,q1,q2,ρ1,ρ2,hq1,hq2,rfl⟩
  refine ⟨gHead gb ob ib n room :: gRow ob (ov.set f q1) :: gRow ib (iv.set t q2) :: (oc.set f ρ1 ++ ic.set t ρ2),?_,rfl,ov.set f q1,iv.set t q2,oc.set f ρ1,ic.set t ρ2,?_,?_,rfl⟩
  ·simp only [List.cons_append,List.nil_append]
   refine ((List.Perm.trans ?_ ((erase_set_perm ρ1 (by rw [ho.2.1]; exact hf)).append (erase_set_perm ρ2 (by rw [hi.2.1]; exact ht))).symm).cons _).cons _ |>.cons _
   simp only [List.cons_append];exact (List.perm_middle.symm).cons _
  ·refine ho.set (lf':=outsOf (ls ++ [(⟨k,f,t⟩:Lk)])) ?_ (fun v hv=>by rw [outsOf_snoc,if_neg (Ne.symm hv),List.append_nil])
   rw [outsOf_snoc,if_pos rfl]; exact hq1
  ·refine hi.set (lf':=insOf (ls ++ [(⟨k,f,t⟩:Lk)])) ?_ (fun v hv=>by rw [insOf_snoc,if_neg (Ne.symm hv),List.append_nil])
   rw [insOf_snoc,if_pos rfl]; exact hq2
theorem GBl.at {gb ob ib n:Nat} {room:Value} {ls:List Lk} {H:List PH} (h:GBl gb ob ib n room ls H) {γ:PH} (hs:∀ ρ ∈ H,PH.sub ρ γ):GAt γ gb n (outsOf ls) (insOf ls) room:=by
 obtain ⟨ov,iv,oc,ic,ho,hi,rfl⟩:=h
 have hh:=hs (gHead gb ob ib n room) (by simp)
 have hr1:=hs (gRow ob ov) (by simp)
 have hr2:=hs (gRow ib iv) (by simp)
 refine ⟨⟨ob,n,hh.rdc (by rw [rdc_sng]; rfl),fun v hv=>?_⟩,⟨ib,n,hh.rdc (by rw [rdc_sng]; rfl),fun v hv=>?_⟩,hh.rdc (by rw [rdc_sng]; rfl)⟩
 ·obtain ⟨u,ρ,g1,g2,g3⟩:=ho.2.2 v hv
  refine ⟨u,hr1.rdc (by rw [rdc_sng]; simpa using g1),(hs ρ ?_).slE g3.at⟩
  have:=List.mem_of_getElem? g2
  simp [this]
 ·obtain ⟨u,ρ,g1,g2,g3⟩:=hi.2.2 v hv
  refine ⟨u,hr2.rdc (by rw [rdc_sng]; simpa using g1),(hs ρ ?_).slE g3.at⟩
  have:=List.mem_of_getElem? g2
  simp [this]
theorem GOk_of {n:Nat} {ls:List Lk} (hn:n ≤ 2000) (hl:ls.length ≤ 40000) (hx:∀ x ∈ ls,x.f < n ∧ x.t < n ∧ x.k ≤ 40000):GOk n (outsOf ls) (insOf ls) where
 n1:=hn
 len:=fun _=>⟨filter_le _ _ hl,filter_le _ _ hl⟩
 inT:=fun v x _ hm=>by
  unfold insOf at hm; rw [List.mem_filter] at hm
  have:=hx x hm.1
  exact ⟨by simpa using hm.2,this.1,this.2.2⟩
 outF:=fun v x _ hm=>by
  unfold outsOf at hm; rw [List.mem_filter] at hm
  have:=hx x hm.1
  exact ⟨by simpa using hm.2,this.2.1,this.2.2⟩
 same:=fun x _ _=>by unfold insOf outsOf; simp
theorem GBl_new (gb ob ib n:Nat) (room:Value):GBl gb ob ib n room [] (gHead gb ob ib n room :: gRow ob (List.replicate n (.slice none 0 0)) :: gRow ib (List.replicate n (.slice none 0 0)) :: (List.replicate n emp ++ List.replicate n emp)):=by
 have h:∀ lf:Nat → List Lk,(∀ v,lf v = []) → RowOK n (List.replicate n (.slice none 0 0)) (List.replicate n emp) lf:=fun lf hl=>by
  refine ⟨by simp,by simp,fun v hv=>⟨.slice none 0 0,emp,by simp [hv],by simp [hv],?_⟩⟩
  rw [hl v];exact OwnS.nil _ _
 exact ⟨_,_,_,_,h _ (fun _=>rfl),h _ (fun _=>rfl),rfl⟩

abbrev roomR (b1 b2:Nat):Value:=.func (.func 130) #[] #[.pointer (some ⟨b1,0,none⟩),.pointer (some ⟨b2,0,none⟩)]
set_option maxHeartbeats 2000000 in
theorem residual_spec (ρ:PH) (v fs:Value) (n:Nat) (l:List Arc) (hv:ArcsAt ρ v l) (hfs:fs.oneCell' = true) (hn:n ≤ 2000) (hl:l.length ≤ 20000) (hok:∀ a ∈ l,okArc n a = true) :
  Eng.Spec Tryz.prog (fv 96) [int n,v,fs] [ρ] [] (fun r H'=>∃ gb b1 b2 γ,r = .pointer (some ⟨gb,0,none⟩) ∧ GAt γ gb n (outsOf (rlinks l)) (insOf (rlinks l)) (roomR b1 b2) ∧
   H' = [γ,sng b1 (.cells #[v] 67 (0,0)),sng b2 (.cells #[fs] 22 (0,0))]):=by
 have hv1:=SlE.one hv
 obtain ⟨q,c,rfl,hr⟩:=hv.val encA_len
 refine spec_in (cap:=[]) Tryz.func96 rfl rfl Tryz.ntmps96 rfl envZ (fun N β=>?_)
 refine Aa ?_;refine BH (CX rfl rfl) rfl rfl rfl ?_;rintro _ _ ⟨b1,rfl,rfl⟩;refine BH (CX rfl hfs) rfl rfl rfl ?_;rintro _ _ ⟨b2,rfl,rfl⟩;refine Aa7 ?_;refine BW ?_;refine BE (newGraph_spec n 130 [.pointer (some ⟨b1,0,none⟩),.pointer (some ⟨b2,0,none⟩)] hn) rfl rfl takesZ rdZ rfl rfl ?_;rintro _ _ ⟨gb,ob,ib,rfl,rfl⟩;simp only [List.cons_append,List.nil_append]
 have hG0:=GBl_new gb ob ib n (roomR b1 b2)
 refine EH (n + n) ?_;simp only [List.cons_append,List.nil_append];refine Abn ?_;refine Abd ?_;refine Abh ?_
 refine BA [0,4,5,7,13,14] (X:=Nat × List PH) (0,_) (fun x=>x.1 ≤ l.length ∧ GBl gb ob ib n (roomR b1 b2) (rlinks (l.take x.1)) x.2) (fun x=>[(15,int x.1)])
  (fun x=>sng b1 (.cells #[.slice q l.length c] 67 (0,0)) :: sng b2 (.cells #[fs] 22 (0,0)) :: x.2) (fun x=>l.length - x.1) pickZ ⟨by simp,hG0⟩ covZ ?_ ?_
 ·refine Sel.cons takeZ (Sel.cons takeZ (Sel.cons takeZ (Sel.cons takeZ (Sel.cons takeZ ?_))))
  rw [List.replicate_append_replicate];exact Sel.refl
 rintro ⟨k,Hg⟩ ⟨hk,hG⟩
 dsimp only at hk hG ⊢
 by_cases hlt:k < l.length
 ·have hx:=List.getElem?_eq_getElem hlt
  obtain ⟨b',o,rfl,hA,h0,h1,h2⟩:=arcRow hr hx
  obtain ⟨g1,g2,g3,g4,g5,g6,g7⟩:=okArc_iff.1 (hok l[k] (List.getElem_mem hlt))
  obtain ⟨f,hf⟩:=Int.eq_ofNat_of_zero_le g1
  obtain ⟨t,ht⟩:=Int.eq_ofNat_of_zero_le g3
  have hlr:=rlinks_len (l.take k)
  have hlk:(l.take k).length = k:=by simp; omega
  have hsn:=rlinks_snoc (l.take k) l[k]
  rw [← take_snoc' hlt,hlk,hf,ht] at hsn;simp only [Int.toNat_natCast] at hsn;rw [hf,ht] at hA
  have a1:=add_bl hG (2 * k) f t (by omega) (by omega) (by omega)
  refine Ad7 ?_;refine AX ?_; rintro _ _ ⟨b,rfl,rfl⟩;refine AD ?_;refine AV ?_; rintro _ _ ⟨rfl,rfl⟩;refine AE ?_;refine Abp ?_;refine E2 ?_;refine Acy ?_;refine BE a1 rfl rfl (Takes.skips [_,_,_] Takes.all) rdZ rfl rfl ?_;rintro _ H1 ⟨rfl,hG1⟩
  refine CH (H':=sng b (.cells #[int (f:Int),int (t:Int),int l[k].c] 141 (0,0)) :: sng b1 (.cells #[.slice (some ⟨b',o,none⟩) l.length c] 67 (0,0)) :: sng b2 (.cells #[fs] 22 (0,0)) :: H1) (by simpa using List.perm_append_comm (l₁:=H1) (l₂:=[_,_,_])) ?_
  have a2:=add_bl hG1 (2 * k + 1) t f (by omega) (by omega) (by rw [List.length_append]; simp only [List.length_singleton]; omega)
  refine Ady ?_;refine Aaz ?_;refine E2 ?_;refine CK ?_;refine Acy ?_;refine BE a2 rfl rfl (Takes.skips [_,_,_] Takes.all) rdZ rfl rfl ?_;rintro _ H2 ⟨rfl,hG2⟩
  refine CH (H':=sng b (.cells #[int (f:Int),int (t:Int),int l[k].c] 141 (0,0)) :: sng b1 (.cells #[.slice (some ⟨b',o,none⟩) l.length c] 67 (0,0)) :: sng b2 (.cells #[fs] 22 (0,0)) :: H2) (by simpa using List.perm_append_comm (l₁:=H2) (l₂:=[_,_,_])) ?_
  refine Adr ?_
  refine AY (k + 1,H2) ⟨by dsimp only; omega,?_⟩ (by dsimp only; omega) covZ (Sel.cons takeZ (Sel.cons takeZ (Sel.skip Sel.refl)))
  dsimp only
  rw [hsn]
  simpa using hG2
 ·rw [List.take_of_length_le (by omega)] at hG
  refine Abr ?_;refine Abt ?_
  refine CH (H':=Hg ++ [sng b1 (.cells #[.slice q l.length c] 67 (0,0)),sng b2 (.cells #[fs] 22 (0,0))]) (by simpa using List.perm_append_comm (l₂:=Hg) (l₁:=[_,_])) ?_
  refine DG (fun γ hγ=>?_)
  exact AI (res1 rfl rfl) rsubZ selZ ⟨gb,b1,b2,γ,rfl,hG.at hγ,rfl⟩
end Go.Proofs.YtphehihohghfoaaGreat
/- The maximum flow: paths as long as there are any. -/
namespace Go.Proofs.YtphehihohghfoaaGreat
open Go.Eng Go.Flow
set_option maxRecDepth 100000
set_option maxHeartbeats 4000000

theorem opens_opn {n:Nat} {ls:List Lk} (hls:∀ x ∈ ls,x.f < n ∧ x.t < n) (rm:Nat → Int):opens n (insOf ls) rm = opn ls rm:=opens_eq hls rm
theorem nxO_nxt (ls:List Lk) (rm:Nat → Int) (D:List Int):nxO (outsOf ls) rm D = nxt ls rm D:=nxt_eq ls rm D
def MaxLeft (n:Nat) (l:List Arc) (s t:Nat) (v fs gv:Value) (F:List Int) (H:List PH):Prop:=
 ∃ bf gb b1 b2 γ,fs = .slice (some ⟨bf,0,none⟩) l.length l.length ∧ gv = .pointer (some ⟨gb,0,none⟩) ∧ GAt γ gb n (outsOf (rlinks l)) (insOf (rlinks l)) (roomR b1 b2) ∧ RunR n l s t (List.replicate l.length 0) F ∧
  H = [sng bf (.cells (ints F) 3 (0,0)),γ,sng b1 (.cells #[v] 67 (0,0)),sng b2 (.cells #[.slice (some ⟨bf,0,none⟩) l.length l.length] 22 (0,0))]
set_option maxHeartbeats 4000000 in
theorem maximum_spec (ρ:PH) (v:Value) (n:Nat) (l:List Arc) (s t:Nat) (hv:ArcsAt ρ v l) (hn:n ≤ 2000) (hl:l.length ≤ 20000) (hok:∀ a ∈ l,okArc n a = true) (hs:s < n) (ht:t < n) (hst:s ≠ t) :
  Eng.Spec Tryz.prog (fv 58) [int n,v,int s,int t] [ρ] [] (fun r H'=>∃ fs gv F,r = .tuple #[fs,gv] ∧ MaxLeft n l s t v fs gv F H'):=by
 have hv1:=SlE.one hv
 have hrl:=rl_lt hok
 have hGok:GOk n (outsOf (rlinks l)) (insOf (rlinks l)):=GOk_of hn (by rw [rlinks_len]; omega) (fun x hx=>by have:=rlinks_mem hok hx; omega)
 have hcap:∀ a ∈ l,0 ≤ a.c ∧ a.c ≤ 1099511627776:=fun a ha=>by have:=okArc_iff.1 (hok a ha); omega
 obtain ⟨q,c,rfl,hr⟩:=hv.val encA_len
 refine spec_in (cap:=[]) Tryz.func58 rfl rfl Tryz.ntmps58 rfl envZ (fun N β=>?_)
 refine Acc ?_;refine Aad ?_;refine AW ?_;refine DO ?_; rintro _ _ ⟨b,rfl,rfl⟩;refine Aa7 ?_;refine Aaz ?_
 revert b; intro bf
 refine BE (residual_spec ρ _ (.slice (some ⟨bf,0,none⟩) l.length l.length) n l hv rfl hn hl hok) rfl rfl takesZ rdZ rfl rfl ?_;rintro _ _ ⟨gb,b1,b2,γ,rfl,hG,rfl⟩;simp only [List.cons_append,List.nil_append];refine Aab ?_;refine AP ?_
 refine BA [0,1,2,3,10,11] (List.replicate l.length (0:Int)) (fun fl=>Flw n l s t fl ∧ ∀ F,RunR n l s t fl F → RunR n l s t (List.replicate l.length 0) F) (fun _=>[])
  (fun fl=>[sng bf (.cells (ints fl) 3 (0,0)),γ,sng b1 (.cells #[.slice q l.length c] 67 (0,0)),sng b2 (.cells #[.slice (some ⟨bf,0,none⟩) l.length l.length] 22 (0,0))])
  (fun fl=>(1099511627776 * (2 * (l.length:Int)) - fval s l fl).toNat) pickZ ⟨flw_zeros hok,fun _ h=>h⟩ covZ selZ ?_
 rintro fl ⟨hF,hrun⟩
 have hrm:∀ v x,v < n → x ∈ insOf (rlinks l) v → Ans Tryz.prog (roomR b1 b2) [int x.k] [ρ,sng b1 (.cells #[.slice q l.length c] 67 (0,0)),sng b2 (.cells #[.slice (some ⟨bf,0,none⟩) l.length l.length] 22 (0,0)),sng bf (.cells (ints fl) 3 (0,0))] (fun r=>r = int (rmR l fl x.k)):=fun v x _ hx=>by
  have hm:x ∈ rlinks l:=by unfold insOf at hx; exact (List.mem_filter.1 hx).1
  exact residual1_spec ρ _ b1 b2 bf l.length l.length x.k _ _ _ l fl hv hF.len.symm rfl (rlinks_mem hok hm).2.2 hl hF.cap hcap
 refine AP ?_;refine Aad ?_;refine Aaz ?_;refine BZ (path_spec γ gb n s t (outsOf (rlinks l)) (insOf (rlinks l)) (roomR b1 b2) (rmR l fl) _ hG hGok hs ht hrm) rfl rfl rdZ rfl rfl ?_;rintro _ ρp ⟨D,pv,hD,rfl,hP⟩;rw [opens_opn hrl] at hD;rw [nxO_nxt] at hP
 by_cases h0:0 ≤ D.getD s 0
 rotate_left
 ·rw [decide_eq_false h0]
  refine Ab7 ?_;refine Ac2 ?_;refine Abp ?_;refine Aan ?_
  exact AI (res2 rfl rfl rfl) rsubZ selZ ⟨_,_,fl,rfl,bf,gb,b1,b2,γ,rfl,rfl,hG,hrun fl (.done hD (by omega)),rfl⟩
 rw [decide_eq_true h0]
 obtain ⟨hN1,hN2,hN3⟩:=rNext_ok hok hs hst hF hD h0
 obtain ⟨k0,hk0⟩:=Int.eq_ofNat_of_zero_le h0
 have hDn:=hD.lt (fun x hx=>hrl x hx.1) ht hs
 have hPl:(rP l fl D s).length = k0:=path_len hrl hD k0 s hs hk0
 have hPm:∀ x ∈ rP l fl D s,x ∈ rlinks l:=fun x hx=>((path_chn hrl hD k0 s hs hk0).all x hx).1.1
 have hroom:leastR (rmR l fl) (rP l fl D s) ≤ 1099511627776:=(leastR_le _ _ _).1
 have hIn:IntsAt ρp pv (ksOf (rP l fl D s)):=ownInts (e:=3) (by rw [show (ksOf (rP l fl D s)).length = (rP l fl D s).length from by simp [ksOf]]; exact hP)
 have hlst:=least_spec γ ρp gb (roomR b1 b2) pv (rmR l fl) _ (rP l fl D s) hG.r hIn (by omega) (fun x hx=>hrm x.t x (hrl x (hPm x hx)).2 (by unfold insOf; rw [List.mem_filter]; exact ⟨hPm x hx,by simp⟩))
 obtain ⟨q2,c2,rfl,hr2⟩:=hIn.val Eng.encI_len
 have hkl:(ksOf (rP l fl D s)).length = (rP l fl D s).length:=by simp [ksOf]
 have hmu:=fval_bd s l (rNext l fl D s) (inCap_small l _ hN1.len hN1.cap hok)
 rw [← hN1.len] at hmu;refine Aem ?_;refine Abp ?_;refine A2 hlst rfl rfl rdZ rfl rfl ?_;rintro _ rfl;refine Aa7 ?_;refine Abh ?_
 refine BA [0,1,2,3,10,11,14,38,39] (0:Nat) (fun i=>i ≤ (rP l fl D s).length) (fun i=>[(40,int i)])
  (fun i=>[sng bf (.cells (ints (augAll (leastR (rmR l fl) (rP l fl D s)) fl ((rP l fl D s).take i))) 3 (0,0)),γ,sng b1 (.cells #[.slice q l.length c] 67 (0,0)),sng b2 (.cells #[.slice (some ⟨bf,0,none⟩) l.length l.length] 22 (0,0)),ρp])
  (fun i=>(rP l fl D s).length - i) pickZ (by omega) covZ selZ ?_
 intro i hi
 by_cases hlt:i < (rP l fl D s).length
 ·have hx:(ksOf (rP l fl D s))[i]? = some ((rP l fl D s)[i].k:Int):=by simp [ksOf,hlt]
  obtain ⟨b,o,rfl,g0⟩:=hr2.int hx
  have hxm:=hPm _ (List.getElem_mem hlt)
  have hxk:=(rlinks_mem hok hxm).2.2
  have hal:(augAll (leastR (rmR l fl) (rP l fl D s)) fl ((rP l fl D s).take i)).length = l.length:=by rw [augAll_len]; exact hF.len.symm
  have hic:=inCap_get l _ (rTake_cap hok hs hF hD h0 i) ((rP l fl D s)[i].k / 2) (l[(rP l fl D s)[i].k / 2]'(by omega)) ((augAll (leastR (rmR l fl) (rP l fl D s)) fl ((rP l fl D s).take i)).getD ((rP l fl D s)[i].k / 2) 0) (List.getElem?_eq_getElem (by omega)) (by rw [List.getD_eq_getElem?_getD,List.getElem?_eq_getElem (by omega)]; rfl)
  have hcc:=hcap _ (List.getElem_mem (show (rP l fl D s)[i].k / 2 < l.length by omega))
  have hsn:=augAll_snoc (leastR (rmR l fl) (rP l fl D s)) fl ((rP l fl D s).take i) (rP l fl D s)[i]
  rw [← take_snoc' hlt] at hsn;unfold augR at hsn
  by_cases hp:(rP l fl D s)[i].k % 2 = 0
  ·rw [if_pos hp] at hsn
   refine Adl ?_;refine Aa7 ?_;refine E3 ?_;refine CI ?_;refine Adg ?_;refine Aaz ?_;refine ES ?_;refine BS ?_;refine Aca ?_;refine CK ?_;refine BS ?_;refine C1 ?_; rintro _ _ ⟨rfl,rfl⟩;refine Adr ?_
   refine AY (i + 1) (by omega) (by omega) covZ ?_
   rw [hsn];exact selZ
  ·rw [if_neg hp] at hsn
   refine Adl ?_;refine Aa7 ?_;refine E3 ?_;refine B4 ?_;refine AE ?_;refine AM rfl ?_;refine AA ?_;refine Aaz ?_;refine ES ?_;refine BS ?_;refine Aca ?_;refine CY ?_;refine BS ?_;refine C1 ?_; rintro _ _ ⟨rfl,rfl⟩;refine Adr ?_
   refine AY (i + 1) (by omega) (by omega) covZ ?_
   rw [hsn];exact selZ
 ·refine AC ?_
  refine Ad0 ?_;refine A3 ?_
  refine AY (rNext l fl D s) ⟨hN1,fun F hR=>hrun F (.step hD h0 hR)⟩ (by omega) covZ ?_
  rw [List.take_of_length_le (by omega)]
  exact selZ
end Go.Proofs.YtphehihohghfoaaGreat
/- Max and Cut of the program. -/
namespace Go.Proofs.YtphehihohghfoaaGreat
open Go.Eng Go.Flow
set_option maxRecDepth 100000
set_option maxHeartbeats 4000000

theorem flowMax_spec (ρ:PH) (v:Value) (n s t:Int) (l:List Arc) (hv:ArcsAt ρ v l) (hl:l.length ≤ 1000000) :
  Makes Tryz.prog (fv 51) [int n,v,int s,int t] [ρ] (fun r σ=>∃ fs F m e,r = .tuple #[fs,int m,int e] ∧ IntsAt σ fs F ∧ MaxOK n l s t F m e):=by
 have hnil:IntsAt emp (.slice none 0 0) []:=⟨rfl,.inl ⟨rfl,none,0,rfl⟩⟩
 refine spec_in (cap:=[]) Tryz.func51 rfl rfl Tryz.ntmps51 rfl envZ (fun N β=>?_)
 refine Aa ?_;refine Acu ?_;refine Ac ?_
 focus ((refine A2 (check_spec ρ v n l hv hl) rfl rfl rdZ rfl rfl ?_; rintro _ rfl))
 refine Aa7 ?_
 by_cases hc:chk n l = 0
 rotate_left
 ·refine CF ?_
  refine Aag ?_;refine Aad ?_;refine Acu ?_;refine BX ?_
  exact AI (res3 rfl rfl rfl rfl) rsubZ selZ ⟨emp,⟨_,[],0,_,rfl,hnil,.inl ⟨by unfold maxErr; rw [if_pos hc]; exact hc,by unfold maxErr; rw [if_pos hc],rfl,rfl⟩⟩,rfl⟩
 refine Abc ?_;refine Aam ?_;refine Aaz ?_
 focus ((refine A2 (ends_spec _ _ _) rfl rfl rdZ rfl rfl ?_; rintro _ rfl))
 refine Aa7 ?_
 have hme:maxErr n l s t = if okEnds n s t = true then 0 else 2:=by unfold maxErr; rw [if_neg (by rw [hc]; simp)]
 cases he:okEnds n s t with
 | false =>
  rw [he] at hme;simp only [Bool.false_eq_true,if_false] at hme ⊢;refine Acs ?_;refine Aad ?_;refine Acu ?_;refine BX ?_
  exact AI (res3 rfl rfl rfl rfl) rsubZ selZ ⟨emp,⟨_,[],0,_,rfl,hnil,.inl ⟨by rw [hme]; simp,by rw [hme],rfl,rfl⟩⟩,rfl⟩
 | true =>
  rw [he] at hme;simp only [if_true] at hme ⊢
  obtain ⟨n',s',t',g⟩:=maxErr_good hme
  obtain ⟨rfl,rfl,rfl⟩:=And.intro g.en (And.intro g.es g.et)
  refine Abc ?_;refine Aad ?_;refine Acq ?_;refine BE (maximum_spec ρ v n' l s' t' hv g.n2 g.l2 g.ok g.sn g.tn g.ne) rfl rfl takesZ rdZ rfl rfl ?_;rintro _ _ ⟨_,_,F,rfl,bf,gb,b1,b2,γ,rfl,rfl,_,hR,rfl⟩
  have hF:=(hR.flw g.ok g.sn g.ne (flw_zeros g.ok)).1
  have hIn:IntsAt (sng bf (.cells (ints F) 3 (0,0))) (.slice (some ⟨bf,0,none⟩) l.length l.length) F:=by rw [hF.len]; exact intsAt_sng
  simp only [List.cons_append,List.nil_append];refine Acx ?_;refine Acq ?_;refine A2 (value_spec ρ _ v _ s' l F hv hIn g.l2 hF.len.symm (inCap_small l F hF.len hF.cap g.ok)) rfl rfl rdZ rfl rfl ?_;rintro _ rfl;refine Acu ?_;exact AI (res3 rfl rfl rfl rfl) rsubZ selZ ⟨_,⟨_,F,_,_,rfl,hIn,.inr ⟨hme,rfl,hR,rfl⟩⟩,rfl⟩

set_option maxHeartbeats 8000000 in
theorem flowCut_spec (ρ:PH) (v:Value) (n s t:Int) (l:List Arc) (hv:ArcsAt ρ v l) (hl:l.length ≤ 1000000) :
  Makes Tryz.prog (fv 30) [int n,v,int s,int t] [ρ] (fun r σ=>∃ fs side c e,r = .tuple #[fs,int c,int e] ∧ IntsAt σ fs side ∧ CutOK n l s t side c e):=by
 have hnil:IntsAt emp (.slice none 0 0) []:=⟨rfl,.inl ⟨rfl,none,0,rfl⟩⟩
 refine spec_in (cap:=[]) Tryz.func30 rfl rfl Tryz.ntmps30 rfl envZ (fun N β=>?_)
 refine Aa ?_;refine Acu ?_;refine Ac ?_
 focus ((refine A2 (check_spec ρ v n l hv hl) rfl rfl rdZ rfl rfl ?_; rintro _ rfl))
 refine Aa7 ?_
 by_cases hc:chk n l = 0
 rotate_left
 ·refine CF ?_
  refine Aag ?_;refine Aad ?_;refine Acu ?_;refine BX ?_
  exact AI (res3 rfl rfl rfl rfl) rsubZ selZ ⟨emp,⟨_,[],0,_,rfl,hnil,.inl ⟨by unfold maxErr; rw [if_pos hc]; exact hc,by unfold maxErr; rw [if_pos hc],rfl,rfl⟩⟩,rfl⟩
 refine Abc ?_;refine Aam ?_;refine Aaz ?_
 focus ((refine A2 (ends_spec _ _ _) rfl rfl rdZ rfl rfl ?_; rintro _ rfl))
 refine Aa7 ?_
 have hme:maxErr n l s t = if okEnds n s t = true then 0 else 2:=by unfold maxErr; rw [if_neg (by rw [hc]; simp)]
 cases he:okEnds n s t with
 | false =>
  rw [he] at hme;simp only [Bool.false_eq_true,if_false] at hme ⊢;refine Acs ?_;refine Aad ?_;refine Acu ?_;refine BX ?_
  exact AI (res3 rfl rfl rfl rfl) rsubZ selZ ⟨emp,⟨_,[],0,_,rfl,hnil,.inl ⟨by rw [hme]; simp,by rw [hme],rfl,rfl⟩⟩,rfl⟩
 | true =>
  rw [he] at hme;simp only [if_true] at hme ⊢
  obtain ⟨n',s',t',g⟩:=maxErr_good hme
  obtain ⟨rfl,rfl,rfl⟩:=And.intro g.en (And.intro g.es g.et)
  have hrep:(List.replicate n' false).length = n':=by simp
  have hn2:=g.n2
  have hsn:=g.sn
  have hrl:=rl_lt g.ok
  have hGok:GOk n' (outsOf (rlinks l)) (insOf (rlinks l)):=GOk_of g.n2 (by rw [rlinks_len]; have:=g.l2; omega) (fun x hx=>by have:=rlinks_mem g.ok hx; have:=g.l2; omega)
  have hcap:∀ a ∈ l,0 ≤ a.c ∧ a.c ≤ 1099511627776:=fun a ha=>by have:=okArc_iff.1 (g.ok a ha); omega
  refine Abc ?_;refine Aad ?_;refine Acq ?_;refine BE (maximum_spec ρ v n' l s' t' hv g.n2 g.l2 g.ok g.sn g.tn g.ne) rfl rfl takesZ rdZ rfl rfl ?_;rintro _ _ ⟨_,_,F,rfl,bf,gb,b1,b2,γ,rfl,rfl,hG,hR,rfl⟩
  have hF:=(hR.flw g.ok g.sn g.ne (flw_zeros g.ok)).1
  obtain ⟨ob,oc,ho,hol⟩:=hG.o
  have hrm:∀ x,x ∈ rlinks l → Ans Tryz.prog (roomR b1 b2) [int x.k] [ρ,sng b1 (.cells #[v] 67 (0,0)),sng b2 (.cells #[.slice (some ⟨bf,0,none⟩) l.length l.length] 22 (0,0)),sng bf (.cells (ints F) 3 (0,0))] (fun r=>r = int (rmR l F x.k)):=fun x hx =>
   residual1_spec ρ _ b1 b2 bf l.length l.length x.k _ _ _ l F hv hF.len.symm rfl (rlinks_mem g.ok hx).2.2 g.l2 hF.cap hcap
  simp only [List.cons_append,List.nil_append];refine AR (ρ:=sng bf _) takeZ ?_;refine AR (ρ:=γ) takeZ ?_;refine AR (ρ:=sng b1 _) takeZ ?_;refine AR (ρ:=sng b2 _) takeZ ?_;refine Acx ?_;refine E4 ?_; rintro _ _ ⟨b,rfl,rfl⟩;refine BR ?_; rintro _ _ ⟨b,rfl,rfl⟩;refine BD ?_; rintro _ _ ⟨rfl,rfl⟩;refine AE ?_;refine Ac1 ?_;refine BS ?_;refine DA ?_; rintro _ _ ⟨rfl,rfl⟩;refine Aaj ?_;refine Aad ?_;refine BI ?_; rintro _ _ ⟨b,rfl,rfl⟩;refine BR ?_; rintro _ _ ⟨b,rfl,rfl⟩;refine BD ?_; rintro _ _ ⟨rfl,rfl⟩;refine AE ?_;refine AP ?_
  rename_i bm bB bi
  revert b; intro bq
  have hq0:OwnO 3 1 (.slice (some ⟨bi,0,none⟩) 1 1) 1 [int s'] (sng bi (.cells [int (s':Int)].toArray 3 (0,0))):=OwnS.ownO (n:=1) rfl (by simp [maxLen])
  refine BX ?_
  refine DN [0,1,2,3,14,15] ((((List.replicate n' false).set s' true,[s']),((.slice (some ⟨bi,0,none⟩) 1 1,sng bi (.cells [int (s':Int)].toArray 3 (0,0))),bq)),([],emp)) (X:=((List Bool × List Nat) × ((Value × PH) × Nat)) × (List Nat × PH))
   (fun x=>x.2.1.map mk) (fun x=>RInv n' s' (rE l F) x.1.1.1 x.1.1.2 ∧ OwnO 3 1 x.1.2.1.1 x.1.1.2.length (qInts x.1.1.2) x.1.2.1.2 ∧ x.1.1.2.length + unm x.1.1.1 ≤ n' ∧ MkIn x.2.2 x.2.1)
   (fun x=>[(16,.pointer (some ⟨x.1.2.2,0,none⟩))]) (fun x=>[sng bB (.cells #[.slice (some ⟨bm,0,none⟩) n' n'] 113 (0,0)),sng bm (.cells (bools x.1.1.1) 4 (0,0)),sng x.1.2.2 (.cells #[x.1.2.1.1] 22 (0,0)),x.1.2.1.2,x.2.2]) (fun x=>2 * unm x.1.1.1 + x.1.1.2.length)
   pickZ rfl ⟨RInv.start hsn,hq0,by have:=unm_start hsn; dsimp only [List.length_singleton]; omega,MkIn.nil⟩ covZ selZ ?_
  rintro ⟨⟨⟨B,q⟩,⟨⟨qv,ρq⟩,bq2⟩⟩,⟨ms,μ⟩⟩ ⟨hB,hQ,hql,hM⟩
  dsimp only at hB hQ hql hM ⊢
  have hBl:=hB.len
  cases q with
  | nil =>
   have hQ':OwnO 3 1 qv 0 [] ρq:=hQ
   obtain ⟨_,b1',o1,cap1,cur1,rfl,rfl,_⟩:=hQ'
   have hreach:=hB.reach (fun x hx=>hrl x hx.1) hsn
   refine BX ?_;refine AC ?_;refine Abd ?_;refine Adw ?_;refine Ad ?_;refine Aal ?_;refine AC ?_;refine Abd ?_;refine Abh ?_
   refine BA [0,1,15,82,83] (X:=Nat × (Value × PH)) (0,(.slice none 0 0,emp)) (fun x=>x.1 ≤ n' ∧ OwnS 3 1 x.2.1 (sideOf B x.1).length ((sideOf B x.1).map int) x.2.2) (fun x=>[(18,x.2.1),(84,int x.1)])
    (fun x=>[sng bB (.cells #[.slice (some ⟨bm,0,none⟩) n' n'] 113 (0,0)),sng bm (.cells (bools B) 4 (0,0)),x.2.2,μ]) (fun x=>n' - x.1) pickZ ⟨by dsimp only; omega,OwnS.nil _ _⟩ covZ selZ ?_
   rintro ⟨k,⟨sv,ρs⟩⟩ ⟨hk,hS⟩
   dsimp only at hk hS ⊢
   have hsl:=sideOf_len B k
   have hsu:=sideOf_succ B k
   by_cases hlt:k < n'
   ·have hbk:=bget_some (B:=B) (v:=k) (by omega)
    cases hb:bget B k with
    | true =>
     rw [hb] at hbk hsu;rw [if_pos rfl] at hsu;refine Ab8 ?_;refine Adp ?_;refine Aan ?_;refine Aad ?_;refine Adg ?_;refine Aaz ?_;refine BI ?_; rintro _ _ ⟨b,rfl,rfl⟩
     refine BH (B5 (by_:=8) (s:=1) (news:=[int (k:Int)]) rfl rfl rfl rfl rfl rfl rfl hS takeZ (cells_own memZ) rfl (by (repeat (first | exact (fun v hv=>absurd hv List.not_mem_nil) | (refine List.forall_mem_cons.2 ⟨?_,?_⟩; (focus (first | exact rfl | assumption))))); first | done | fail) (by omega) (by simp only [maxLen]; omega) (by omega)) rfl rfl rfl ?_
     rintro q9 _ ⟨ρ3,hQ3,rfl⟩;refine Aab ?_;refine Aa2 ?_
     refine AY (k + 1,(q9,ρ3)) ⟨by dsimp only; omega,?_⟩ (by dsimp only; omega) covZ selZ
     dsimp only
     rw [hsu,List.map_append,List.length_append];exact hQ3
    | false =>
     rw [hb] at hbk hsu
     rw [if_neg (by simp),List.append_nil] at hsu
     refine Ab8 ?_;refine Adp ?_;refine Aan ?_;refine Aad ?_;refine Adk ?_
     refine AY (k + 1,(sv,ρs)) ⟨by dsimp only; omega,?_⟩ (by dsimp only; omega) covZ selZ
     dsimp only
     rw [hsu];exact hS
   ·obtain rfl:k = n':=by omega
    refine Abr ?_;refine Abp ?_;refine AF ?_;refine A2 (capacity_spec ρ v k bm k 4 l B hv g.l2 g.ok hBl) rfl rfl rdZ rfl rfl ?_;rintro _ rfl;refine Acu ?_;exact DL hM takeZ (res3 rfl rfl rfl rfl) rsubZ selZ ⟨_,⟨sv,sideOf B k,_,_,rfl,ownInts (e:=3) hS,.inr ⟨hme,rfl,F,B,hR,hreach,rfl,rfl⟩⟩,rfl⟩
  | cons v1 q =>
   have hQ':OwnO 3 1 qv (q.length + 1) (int v1 :: qInts q) ρq:=hQ
   have hV0:=hB.take
   have hvn:=hV0.vn
   obtain ⟨lv,hlv,hls⟩:=hol v1 hvn
   obtain ⟨b1',o1,cap1,rfl,hh0,_⟩:=hQ'.head
   simp only [List.length_cons] at hql ⊢;refine AC ?_;refine Abd ?_;refine AW ?_;refine CL ?_;refine Ack ?_;refine AC ?_
   refine A5 (.q 0 (.q 1 (.q 2 (.q 3 (.q 4 (.q 5 (.q 6 (.q 7 (.q 8 (.q 9 (.l 10 .e .nil))))))))))) [] rfl (by kernel_rfl) selZ ?_
   refine Aa8 ?_;refine Abw ?_;refine AQ ?_;refine GQ ?_;refine AQ ?_;refine Adq ?_;refine CP (DF rfl (open_spec _ _ (SlE.one hls) rfl) rfl rfl rdZ rfl rfl ?_);rintro _ _ ⟨bl,bg,rfl,rfl⟩;simp only [List.cons_append,List.nil_append];refine A6 ?_;refine AR (ρ:=sng bl _) takeZ ?_;refine AR (ρ:=sng bg _) takeZ ?_;refine AP ?_
   refine CW (gf:=97) (cap:=[.pointer (some ⟨bl,0,none⟩),.pointer (some ⟨bg,0,none⟩)]) (ps:=[65]) (X:=(List Bool × List Nat) × (Value × PH)) rfl Tryz.func97 rfl rfl
    (open_iter γ gb bl bg lv (roomR b1 b2) (outsOf (rlinks l) v1) (rmR l F) _ hls (by have:=(hGok.len v1).1; omega) hG.r (fun x hx=>hrm x (by unfold outsOf at hx; exact (List.mem_filter.1 hx).1))) ?_
    (fun i x=>RVInv n' s' (rE l F) x.1.1 v1 x.1.2 ((openL (rmR l F) (outsOf (rlinks l) v1)).take i) ∧ OwnO 3 1 x.2.1 (x.1.2.length + 1) (int v1 :: qInts x.1.2) x.2.2 ∧ x.1.2.length + unm x.1.1 + 1 ≤ n' ∧ 2 * unm x.1.1 + x.1.2.length ≤ 2 * unm B + q.length)
    (fun x=>[sng bB (.cells #[.slice (some ⟨bm,0,none⟩) n' n'] 113 (0,0)),sng bm (.cells (bools x.1.1) 4 (0,0)),sng bq2 (.cells #[x.2.1] 22 (0,0)),x.2.2])
    (fun _ _=>False) ((B,q),(.slice (some ⟨b1',o1,none⟩) (q.length + 1) cap1,ρq)) rfl takesZ ⟨by simpa using hV0,hQ',by dsimp only; omega,by dsimp only; omega⟩ ?_ ?_ ?_
   ·intro σ hσ
    simp only [List.cons_append,List.nil_append,List.mem_cons,List.not_mem_nil,or_false] at hσ ⊢
    rcases hσ with h | h | h | h | h | h | h <;> simp [h]
   ·rintro lp r i ⟨⟨B1,q1⟩,⟨qv2,ρ2⟩⟩ vs hvs ⟨hV,hQ2,hlq,hms⟩ hps has hbd hst hpe hfr
    dsimp only at hV hQ2 hlq hms ⊢
    obtain ⟨st,pe,fnn,tm,prm,asg,bdy,df⟩:=r
    simp only at hps has hbd hst hpe hfr;subst hps has hbd hst hpe;rw [List.getElem?_map] at hvs
    obtain ⟨x,hx,rfl⟩:=Option.map_eq_some_iff.1 hvs
    have hlt:i < (openL (rmR l F) (outsOf (rlinks l) v1)).length:=(List.getElem?_eq_some_iff.1 hx).1
    have hxe:(openL (rmR l F) (outsOf (rlinks l) v1))[i] = x:=(List.getElem?_eq_some_iff.1 hx).2
    have hxm:x ∈ openL (rmR l F) (outsOf (rlinks l) v1):=List.mem_of_getElem? hx
    have hxi:(x ∈ rlinks l ∧ x.f = v1) ∧ 0 < rmR l F x.k:=by
     unfold openL outsOf at hxm
     obtain ⟨k1,k2⟩:=List.mem_filter.1 hxm
     obtain ⟨k3,k4⟩:=List.mem_filter.1 k1
     exact ⟨⟨k3,by simpa using k4⟩,by simpa using k2⟩
    have hxt:=(hrl x hxi.1.1).2
    have htk:(openL (rmR l F) (outsOf (rlinks l) v1)).take (i + 1) = (openL (rmR l F) (outsOf (rlinks l) v1)).take i ++ [x]:=by rw [take_snoc' hlt,hxe]
    have hBl1:B1.length = n':=hV.len
    have hbx:=bget_some (B:=B1) (v:=x.t) (by omega)
    refine yield_spec hfr rfl (by intro p hp; simp at hp; omega) putiZ (fun N' β'=>?_)
    unfold encL;refine AA ?_;refine AX ?_; rintro _ _ ⟨b,rfl,rfl⟩;refine AV ?_; rintro _ _ ⟨rfl,rfl⟩;refine Aee ?_;refine CV takeZ rfl ?_
    cases hb:bget B1 x.t with
    | false =>
     rw [hb] at hbx
     have hp:=hV.push (x:=x) ⟨hxi.1.1,hxi.2⟩ hxt hxi.1.2
     have hu:=unm_set (B:=B1) (i:=x.t) (by omega) hb
     refine AP ?_;refine Abd ?_;refine Aac ?_;refine Adp ?_;refine Ac2 ?_;refine Abd ?_;refine Aac ?_;refine BS ?_;refine DA ?_; rintro _ _ ⟨rfl,rfl⟩;refine Ady ?_;refine AF ?_;refine Aac ?_;refine BI ?_; rintro _ _ ⟨b,rfl,rfl⟩
     refine BH (EG (by_:=8) (s:=1) (news:=[int (x.t:Int)]) rfl rfl rfl rfl rfl rfl rfl hQ2 takeZ (cells_own memZ) rfl (by (repeat (first | exact (fun v hv=>absurd hv List.not_mem_nil) | (refine List.forall_mem_cons.2 ⟨?_,?_⟩; (focus (first | exact rfl | assumption))))); first | done | fail) (by simp only [maxLen]; omega) (by omega)) rfl rfl rfl ?_
     rintro q9 _ ⟨ρ3,hQ3,rfl⟩
     have hq9:q9.oneCell' = true:=by obtain ⟨_,_,_,_,_,rfl,_⟩:=hQ3; rfl
     have hQ4:OwnO 3 1 q9 ((q1 ++ [x.t]).length + 1) (int v1 :: qInts (q1 ++ [x.t])) ρ3:=by
      have:int v1 :: qInts (q1 ++ [x.t]) = (int v1 :: qInts q1) ++ [int (x.t:Int)]:=by simp [qInts]
      rw [this,List.length_append];exact hQ3
     refine BD ?_; rintro _ _ ⟨rfl,rfl⟩;refine Aeb ?_;refine BP takeZ rsubZ selZ ⟨((B1.set x.t true,q1 ++ [x.t]),(q9,ρ3)),.inl ⟨rfl,⟨?_,hQ4,?_,?_⟩,rfl⟩⟩
     ·dsimp only
      rw [htk];exact hp
     ·dsimp only
      rw [List.length_append,List.length_singleton]; omega
     ·dsimp only
      rw [List.length_append,List.length_singleton]; omega
    | true =>
     rw [hb] at hbx;refine AP ?_;refine Abd ?_;refine Aac ?_;refine Adp ?_;refine Ab4 ?_;refine A3 ?_;refine BP takeZ rsubZ selZ ⟨((B1,q1),(qv2,ρ2)),.inl ⟨rfl,⟨?_,hQ2,hlq,hms⟩,rfl⟩⟩;simp only;rw [htk];exact hV.seen hb
   ·rintro b2' ⟨⟨B1,q1⟩,⟨qv2,ρ2⟩⟩ ⟨hV,hQ2,hlq,hms⟩
    dsimp only at hV hQ2 hlq hms ⊢
    simp only [List.cons_append,List.nil_append]
    refine DM (R':=sng b2 (.cells #[.slice (some ⟨bf,0,none⟩) l.length l.length] 22 (0,0)) :: sng b1 (.cells #[v] 67 (0,0)) :: γ :: sng bf (.cells (ints F) 3 (0,0)) :: β :: [ρ]) (by intro σ hσ; simp at hσ ⊢; rcases hσ with h | h | h | h | h | h <;> simp [h]) ?_
    refine CR (b:=b2') takeZ (μ:=μ) takeZ hM ?_
    intro μ2 hM2
    obtain ⟨b5,o5,cap5,rfl,_,hh1⟩:=hQ2.head
    refine A3 ?_;refine A3 ?_;refine AC ?_;refine Abd ?_;refine Ady ?_;refine BR ?_; rintro _ _ ⟨b,rfl,rfl⟩;refine BD ?_; rintro _ _ ⟨rfl,rfl⟩;refine Ady ?_;refine AF ?_
    focus ((refine' CD _ rfl rfl rfl _; rotate_left; (apply ED (i:=1); exact rfl; exact rfl; exact rfl; exact rfl; omega)))
    refine BD ?_; rintro _ _ ⟨rfl,rfl⟩;refine AE ?_
    refine C7 (((B1,q1),((_,ρ2),b)),(b2' :: ms,μ2)) rfl ⟨hV.done (fun x hx hxt=>?_),hh1,by dsimp only; omega,hM2⟩ (by dsimp only [List.length_cons]; omega) covZ selZ
    have hmem:x ∈ openL (rmR l F) (outsOf (rlinks l) v1):=by
     unfold openL outsOf;rw [List.mem_filter,List.mem_filter]
     exact ⟨⟨hx.1,by simpa using hxt⟩,by simpa using hx.2⟩
    simpa [List.length_map] using hmem
   ·rintro _ _ _ h; exact h.elim
end Go.Proofs.YtphehihohghfoaaGreat
/- The chapter's example: its network, its maximum flows, their shipments, a cut. No program in sight. No conditions. -/
namespace Go.Step
open Go.Flow (Flw fval okArc capOf MaxOK inCap)
def eQ:List Int:=[0,1,0]
def eC:List Ct:=[⟨0,1,0,2,3,1,0⟩,⟨1,2,3,5,3,1,0⟩]
def eD:Dm:=⟨0,2,4,0,6⟩
def eF:List Int:=[3,0,0,0,0,0,0,0,1,1,0,0,0,0,0,0,0,3,1,3,3,1]
abbrev eK:Int:=1099511627776
def eA:List EA:=[⟨⟨0,1,eK⟩,-1,0⟩,⟨⟨1,2,eK⟩,-1,1⟩,⟨⟨2,3,eK⟩,-1,2⟩,⟨⟨3,4,eK⟩,-1,3⟩,⟨⟨4,5,eK⟩,-1,4⟩,⟨⟨5,6,eK⟩,-1,5⟩,
  ⟨⟨7,8,1⟩,-1,0⟩,⟨⟨8,9,1⟩,-1,1⟩,⟨⟨9,10,1⟩,-1,2⟩,⟨⟨10,11,1⟩,-1,3⟩,⟨⟨11,12,1⟩,-1,4⟩,⟨⟨12,13,1⟩,-1,5⟩,
  ⟨⟨14,15,eK⟩,-1,0⟩,⟨⟨15,16,eK⟩,-1,1⟩,⟨⟨16,17,eK⟩,-1,2⟩,⟨⟨17,18,eK⟩,-1,3⟩,⟨⟨18,19,eK⟩,-1,4⟩,⟨⟨19,20,eK⟩,-1,5⟩,
  ⟨⟨0,9,3⟩,0,0⟩,⟨⟨1,10,3⟩,0,1⟩,⟨⟨10,19,3⟩,1,3⟩,⟨⟨11,20,3⟩,1,4⟩]
theorem eValid:validT eQ eC [] [] eD = true:=by decide +kernel
theorem eArcs:arcsE eQ eC [] [] eD = eA:=by decide +kernel
theorem eVs:vsN eQ eD = 21:=by decide +kernel
theorem eS:vtx eD eD.s eD.r = 0:=by decide +kernel
theorem eT:vtx eD eD.d eD.e = 20:=by decide +kernel
theorem eG:arcsG eQ eC [] [] eD = eA.map (fun x=>x.a):=by unfold arcsG; rw [eArcs]
theorem eFlow:Flw 21 (arcsG eQ eC [] [] eD) 0 20 eF:=by
  rw [eG]
  exact ⟨by decide +kernel,by decide +kernel,by decide +kernel⟩
def eP (n t:Int):Bool:=decide (n = 0 ∨ (n = 1 ∧ t = 2))
theorem eCap:capB eQ eC [] [] eD eP = 4:=by
  decide +kernel
theorem eMax (hok:VOk eQ eC [] [] eD) {F:List Int} {m e:Int} (hm:MaxN eQ eC [] [] eD F m e):e = 0 ∧ m = 4 ∧ Flw 21 (arcsG eQ eC [] [] eD) 0 20 F ∧ fval 0 (arcsG eQ eC [] [] eD) F = 4:=by
  obtain ⟨h0,N,S,T,hN,hS,hT,hf,hv,P,p1,p2,hc⟩:=max_cut hok hm
  rw [eVs] at hN;rw [eS] at hS;rw [eT] at hT
  obtain rfl:N = 21:=by omega
  obtain rfl:S = 0:=by omega
  obtain rfl:T = 20:=by omega
  have a:fval 0 (arcsG eQ eC [] [] eD) F ≤ capB eQ eC [] [] eD eP:=flow_le_cap hok eVs eS eT hf (P:=eP) (by decide) (by decide)
  have b:fval 0 (arcsG eQ eC [] [] eD) eF ≤ capB eQ eC [] [] eD P:=flow_le_cap hok eVs eS eT eFlow p1 p2
  have c:fval 0 (arcsG eQ eC [] [] eD) eF = 4:=by rw [eG]; decide +kernel
  have hv':m = fval 0 (arcsG eQ eC [] [] eD) F:=hv
  rw [eCap] at a
  exact ⟨h0,by omega,hf,by omega⟩
end Go.Step
