/- Texts of this proof, one after the other; no conditions. -/
import Derived.Lib.RowBridge
import Derived.Laws.BytesString
import Derived.Laws.Strings2
import Derived.Test.YtekcielcagdcmaaGreatDoorWB3
import Derived.Test.YtekcielcagdcmaaGreatDoorWB2
import Derived.Test.YtekcielcagdcmaaGreatDoorWB1
set_option linter.all false
/- One more booking. -/
namespace Go.Proofs.YtekcielcagdcmaaGreatDoor
open Go.Eng Go.Step
set_option maxRecDepth 100000
set_option maxHeartbeats 64000000
theorem ones_B:∀ (l:List Bk),∀ u∈l.flatMap encB,u.oneCell'=true:=fun l u hu=>by
 obtain ⟨x,_,hx⟩:=List.mem_flatMap.1 hu
 simp only [encB,List.mem_cons,List.not_mem_nil,or_false] at hx
 rcases hx with rfl|rfl|rfl|rfl <;> rfl
theorem cloneB_spec (ρ:PH) (v:Value) (l:List Bk) (hv:SlE encB 4 ρ v l) (hl:l.length≤1000000) :
  Makes Tryz.prog (fv 47) [v] [ρ] (fun r σ=>OwnS 48 4 r l.length (l.flatMap encB) σ):=by
 have hv2:=hv
 obtain ⟨q,c,rfl,hr⟩:=hv.val encB_len
 refine spec_in (cap:=[]) Tryz.func47 rfl rfl Tryz.ntmps47 rfl envZ (fun N β=>?_)
 cases q with
 | none =>
  have hnil:l=[]:=by
   cases l with
   | nil=>rfl
   | cons a l =>
    obtain ⟨b,o,e,_⟩:=hr 0 a rfl
    simp at e
  subst hnil;refine CG ?_;refine Ab6 ?_
  focus ((refine' BT _ rfl rfl rfl _; rotate_left; (apply E4; exact rfl; exact rfl; exact rfl)))
  refine Acd ?_;exact AK (res1 rfl rfl) rsubZ selZ ⟨emp,OwnS.nil _ _,rfl⟩
 | some ad =>
  refine Ab6 ?_
  focus ((refine' BT _ rfl rfl rfl _; rotate_left; (apply E5; exact rfl; exact rfl; exact rfl)))
  refine Aag ?_;refine Aa ?_;refine BN ?_; rintro _ _ ⟨b,rfl,rfl⟩;refine AB ?_
  refine BJ (DP (by_:=32) (s:=4) (σ:=ρ) (news:=l.flatMap encB) (m:=l.length) rfl rfl rfl rfl rfl rfl rfl (OwnS.empty (b:=b)) takeZ hv2 (fun b o h=>cellsR h memZ) (ones_B l) (by simp only [maxLen]; omega) (by omega)) rfl rfl rfl ?_
  rintro r1 _ ⟨σ,hO,rfl⟩;refine Aaa ?_;refine AK (res1 rfl rfl) rsubZ selZ ⟨σ,?_,rfl⟩
  simpa using hO
theorem insertB_spec (σ:PH) (bv:Nat) (v:Value) (l:List Bk) (k:Nat) (h:Bk) (hO:OwnS 48 4 v l.length (l.flatMap encB) σ) (hk:k≤l.length) (hl:l.length≤1000) :
  Eng.Spec Tryz.prog (fv 46) [v,int k,.slice (some ⟨bv,0,none⟩) 1 1] [sng bv (.cells (encB h).toArray 48 (0,0))] [σ] (fun r H'=>∃ σ',OwnS 48 4 r (insL l k h).length ((insL l k h).flatMap encB) σ'∧H'=[σ']):=by
 have hO1:=hO
 have hone:∀ u∈encB h,u.oneCell'=true:=by simpa using ones_B [h]
 have hrdv:RdN (sng bv (.cells (encB h).toArray 48 (0,0))) bv 0 (encB h):=rdN_sng
 refine spec_in (cap:=[]) Tryz.func46 rfl rfl Tryz.ntmps46 rfl envZ (fun N β=>?_)
 rcases hO.block with ⟨rfl,rfl,rfl⟩|⟨b,cap,cur,rfl,rfl,hcap,hcm,hcs,htk⟩
 ·have hk0:k=0:=by simpa using hk
  subst hk0;refine Acu ?_;refine CL ?_;refine Ady ?_;refine AB ?_;refine CN ?_;refine Aai ?_;refine Aar ?_
  refine BJ (CU (by_:=32) (s:=4) (news:=encB h) rfl rfl rfl rfl rfl rfl rfl hO1 takeZ (cells_of_mem (σ:=sng bv (.cells (encB h).toArray 48 (0,0))) (Mem.mem memZ) hrdv) rfl hone (by omega) (by simp only [maxLen,List.length_nil]; omega) (by simp only [List.length_nil]; omega)) rfl rfl rfl ?_
  rintro u _ ⟨σ',hO',rfl⟩;refine Aaa ?_
  exact AK (res1 rfl rfl) rsubZ selZ ⟨σ',by simpa [insL] using hO',rfl⟩
 ·by_cases hkn:k=l.length
  ·subst hkn
   refine Acu ?_;refine CL ?_;refine Ady ?_;refine AB ?_;refine CN ?_;refine Aai ?_;refine Aar ?_
   refine BJ (CU (by_:=32) (s:=4) (news:=encB h) rfl rfl rfl rfl rfl rfl rfl hO1 takeZ (cells_of_mem (σ:=sng bv (.cells (encB h).toArray 48 (0,0))) (Mem.mem memZ) hrdv) rfl hone (by omega) (by simp only [maxLen]; omega) (by omega)) rfl rfl rfl ?_
   rintro u _ ⟨σ',hO',rfl⟩;refine Aaa ?_;refine AK (res1 rfl rfl) rsubZ selZ ⟨σ',?_,rfl⟩;rw [insL_end,List.length_append,List.flatMap_append]
   simpa using hO'
  ·have hfl:(l.flatMap encB).length=l.length*4:=flat_len encB_len l
   have htp:cur.toList.take (k*4)=(l.take k).flatMap encB:=by
    rw [flat_take encB_len,← htk,List.take_take]
    congr 1
    omega
   have hdr:∀ j u,((l.drop k).flatMap encB)[j]?=some u→cur.toList[k*4+j]?=some u:=fun j u hu=>by
    rw [flat_cut encB_len l k hk,List.getElem?_drop,← htk] at hu
    have hlt:k*4+j<l.length*4:=by
     have:=(List.getElem?_eq_some_iff.1 hu).1
     simp at this; omega
    rwa [List.getElem?_take_of_lt hlt] at hu
   have hol:∀ u∈(l.drop k).flatMap encB,u.oneCell'=true:=ones_B (l.drop k)
   have hdl:((l.drop k).flatMap encB).length=(l.length-k)*4:=by rw [flat_len encB_len,List.length_drop]
   by_cases hroom:l.length+1≤cap
   ·refine AD ?_
    refine AA ?_;refine Aca ?_;refine CL ?_;refine Ady ?_;refine AB ?_;refine Ab8 ?_;refine Aah ?_;refine AB ?_;refine BS ?_;refine AB ?_;refine FM ?_;refine Adg ?_;refine Adq ?_;refine BS ?_;refine DS ?_;refine Aa8 ?_;refine Abq ?_;refine BS ?_;refine CL ?_;rw [cutP_zero]
    skip
    rw [cutP_atE 4 (show k+1<cap by omega)]
    rotate_left; exact rfl
    refine BT (EI (s:=4) (tS:=34) (tR:=4) (e:=48) (cu1:=(encB h).toArray) (t1:=48) (cu2:=cur) (t2:=48) Tryz.func86 (by kernel_rfl) rfl (by kernel_rfl) (by kernel_rfl) rfl rfl rfl rfl rfl rfl rfl (Mem.mem memZ) (Mem.mem memZ) (by rw [hcs]; omega)) rfl rfl rfl ?_
    refine BE ?_;refine Aai ?_;refine AD ?_
    refine BB (.q 0 (.q 1 (.q 2 (.q 3 (.q 4 (.q 5 (.q 6 (.q 7 (.l 8 .b .nil))))))))) [] rfl (by kernel_rfl) Sel.nil ?_
    refine Abp ?_;refine AL ?_;refine FG ?_;refine CZ ?_;refine Abp ?_;refine CZ ?_
    rw [cutP_atE 4 (show k+1<cap by omega),cutP_atE 4 (show k<cap by omega)]
    rotate_left; exact rfl; exact rfl
    refine BQ (a_b rfl (DL (s:=4) (news:=(l.drop k).flatMap encB) rfl rfl rfl rfl takeZ (cells_of_memH (σ:=sng b (.cells cur 48 (0,0))) (Mem.mem memZ) (rdN_take (by simpa using hdr))) (by rw [hdl]; congr 1; simp only [Nat.min_def]; split <;> omega) hol (by rw [hdl,hcs]; omega)) rfl rfl rfl (fun _ _ _ w hw=>hw.sel Sel.nil) ?_)
    rintro _ _ ⟨rfl,rfl⟩;refine A8 ?_;refine Aar ?_;refine CL ?_;refine AB ?_
    rw [cutP_atE 4 (show k<cap by omega)]
    rotate_left; exact rfl
    have hsz1:(cur.toList.take (0+(k+1)*4) ++ (l.drop k).flatMap encB ++ cur.toList.drop (0+(k+1)*4+((l.drop k).flatMap encB).length)).length=cap*4:=by
     simp only [List.length_append,List.length_take,List.length_drop,Array.length_toList,hdl,hcs];omega
    have htk1:(cur.toList.take (0+(k+1)*4) ++ (l.drop k).flatMap encB ++ cur.toList.drop (0+(k+1)*4+((l.drop k).flatMap encB).length)).take (k*4)=(l.take k).flatMap encB:=by
     rw [List.append_assoc,List.take_append_of_le_length (by rw [List.length_take,Array.length_toList,hcs]; omega),List.take_take,← htp]
     congr 1
     omega
    have hdr1:(cur.toList.take (0+(k+1)*4) ++ (l.drop k).flatMap encB ++ cur.toList.drop (0+(k+1)*4+((l.drop k).flatMap encB).length)).drop (k*4+4)=(l.drop k).flatMap encB ++ cur.toList.drop (0+(k+1)*4+((l.drop k).flatMap encB).length):=by
     have e:(cur.toList.take (0+(k+1)*4)).length=k*4+4:=by rw [List.length_take,Array.length_toList,hcs]; omega
     rw [List.append_assoc,← e,List.drop_left]
    generalize hc1:cur.toList.take (0+(k+1)*4) ++ (l.drop k).flatMap encB ++ cur.toList.drop (0+(k+1)*4+((l.drop k).flatMap encB).length)=c1 at hsz1 htk1 hdr1 ⊢
    refine BJ (DL (s:=4) (news:=encB h) rfl rfl rfl rfl takeZ (cells_of_mem (σ:=sng bv (.cells (encB h).toArray 48 (0,0))) (Mem.mem memZ) hrdv) (by rw [encB_len]; simp only [Nat.min_def]; split <;> omega) hone (by rw [encB_len,List.size_toArray,hsz1]; omega)) rfl rfl rfl ?_
    rintro _ _ ⟨rfl,rfl⟩;refine AE ?_;refine Abi ?_
    refine AK (res1 rfl rfl) rsubZ selZ ⟨_,⟨flat_len encB_len _,.inr ⟨b,cap,_,by rw [insL_len],rfl,by rw [insL_len]; exact hroom,hcm,?_,?_⟩⟩,rfl⟩
    ·simp only [List.size_toArray,List.length_append,List.length_take,List.length_drop,encB_len,hsz1]
     omega
    ·rw [insL_len,encB_len]
     have:=ins_cells encB_len l k h hk c1 htk1 (cur.toList.drop (0+(k+1)*4+((l.drop k).flatMap encB).length))
     simp only [Nat.zero_add] at hdr1 this ⊢;rw [hdr1,← this];simp only [List.append_assoc]
   ·refine AD ?_
    refine AA ?_;refine Aca ?_;refine CL ?_;refine Ady ?_;refine AB ?_;refine Ab8 ?_;refine Aah ?_;refine AB ?_;refine BS ?_;refine AB ?_;refine FM ?_;refine DA ?_;refine Aai ?_;refine Aar ?_;refine DS ?_;refine Aao ?_;refine BS ?_;refine AB ?_;refine DM ?_
    rw [cutP_zero,show ((l.length+1:Nat):Int)-(k:Int)=((l.length+1-k:Nat):Int) from by omega]
    refine BJ (EH (by_:=32) (s:=4) (i:=k) (k:=l.length+1-k) (olds:=(l.take k).flatMap encB) rfl rfl rfl rfl rfl rfl rfl rfl (by omega) (by omega) (cells_of_memH (σ:=sng b (.cells cur 48 (0,0))) (Mem.mem memZ) (rdN_take (fun j u hu=>?_))) (by rw [flat_len encB_len,List.length_take,Nat.min_eq_left hk]) (by omega) (by simp only [maxLen]; omega) (by omega)) rfl rfl rfl ?_
    ·rw [← htp] at hu
     have hlt:=(List.getElem?_eq_some_iff.1 hu).1
     rw [List.length_take] at hlt
     rw [List.getElem?_take_of_lt (by omega)] at hu
     rwa [Nat.zero_add]
    rintro _ _ ⟨b3,cap3,cu3,⟨rfl,rfl⟩,hc3,hm3,hs3,ht3⟩;refine Aca ?_;refine CL ?_;refine AB ?_
    rw [cutP_atE 4 (show k<cap3 by omega)]
    rotate_left; exact rfl
    refine BJ (DL (s:=4) (news:=encB h) rfl rfl rfl rfl takeZ (cells_of_mem (σ:=sng bv (.cells (encB h).toArray 48 (0,0))) (Mem.mem memZ) hrdv) (by rw [encB_len]; simp only [Nat.min_def]; split <;> omega) hone (by rw [encB_len,hs3]; omega)) rfl rfl rfl ?_
    rintro _ _ ⟨rfl,rfl⟩
    have hsz1:(cu3.toList.take (0+k*4) ++ encB h ++ cu3.toList.drop (0+k*4+(encB h).length)).length=cap3*4:=by
     simp only [List.length_append,List.length_take,List.length_drop,Array.length_toList,encB_len,hs3];omega
    have htk1:(cu3.toList.take (0+k*4) ++ encB h ++ cu3.toList.drop (0+k*4+(encB h).length)).take ((k+1)*4)=(l.take k).flatMap encB ++ encB h:=by
     have e:(cu3.toList.take (0+k*4) ++ encB h).length=(k+1)*4:=by rw [List.length_append,List.length_take,Array.length_toList,hs3,encB_len]; omega
     rw [← e,List.take_left,Nat.zero_add,ht3]
    generalize hc1:cu3.toList.take (0+k*4) ++ encB h ++ cu3.toList.drop (0+k*4+(encB h).length)=c1 at hsz1 htk1 ⊢
    refine Aap ?_
    refine BB (.q 0 (.q 1 (.q 2 (.q 3 (.q 4 (.q 5 (.q 6 (.q 7 (.l 8 .b .nil))))))))) [] rfl (by kernel_rfl) Sel.nil ?_
    refine Abp ?_;refine AL ?_;refine FG ?_;refine CZ ?_;refine Abp ?_;refine CZ ?_
    by_cases hk1:k+1<cap3
    rotate_left
    ·exfalso; omega
    rw [cutP_atE 4 hk1,cutP_atE 4 (show k<cap by omega)]
    rotate_left; exact rfl; exact rfl
    refine BQ (a_b rfl (DL (s:=4) (news:=(l.drop k).flatMap encB) rfl rfl rfl rfl takeZ (cells_of_memH (σ:=sng b (.cells cur 48 (0,0))) (Mem.mem memZ) (rdN_take (by simpa using hdr))) (by rw [hdl]; congr 1; simp only [Nat.min_def]; split <;> omega) hol (by rw [hdl,List.size_toArray,hsz1]; omega)) rfl rfl rfl (fun _ _ _ w hw=>hw.sel Sel.nil) ?_)
    rintro _ _ ⟨rfl,rfl⟩;refine A8 ?_;refine Abi ?_
    refine AK (res1 rfl rfl) rsubZ selZ ⟨_,⟨flat_len encB_len _,.inr ⟨b3,cap3,_,by rw [insL_len]; congr 1; omega,rfl,by rw [insL_len]; omega,hm3,?_,?_⟩⟩,rfl⟩
    ·simp only [List.size_toArray,List.length_append,List.length_take,List.length_drop,hdl,hsz1]
     omega
    ·rw [insL_len]
     simp only [Nat.zero_add];rw [htk1]
     have e:((l.take k).flatMap encB ++ encB h ++ (l.drop k).flatMap encB).length=(l.length+1)*4:=by
      rw [List.length_append,List.length_append,hdl,flat_len encB_len,encB_len,List.length_take,Nat.min_eq_left hk]; omega
     rw [← e,List.take_left];unfold insL;rw [List.flatMap_append,List.flatMap_cons,List.append_assoc]
theorem cmpBk_lt_trans {x y z:Bk} (h1:cmpBk x y<0) (h2:cmpBk y z<0):cmpBk x z<0:=by
 rw [cmpBk_lt] at *;omega
theorem bsearchB_spec (ρ:PH) (v:Value) (l:List Bk) (h:Bk) (hv:BkAt ρ v l) (hs:l.Pairwise (fun x y=>cmpBk x y<0)) (hl:l.length≤1000) :
  Ans Tryz.prog (fv 45) [v,.agg #[int h.c,int h.a,int h.b,int h.k],fv 43] [ρ] (fun r=>∃ (k:Nat) (bo:Bool),k≤l.length∧(∀ x∈l.take k,cmpBk x h<0)∧(∀ x∈l.drop k,0≤cmpBk x h)∧r=.tuple #[int k,.bool bo]):=by
 obtain ⟨q,c,rfl,hr⟩:=hv.val encB_len
 have hgi:=List.pairwise_iff_getElem.1 hs
 refine spec_in (cap:=[]) Tryz.func45 rfl rfl Tryz.ntmps45 rfl envZ (fun N β=>?_)
 refine Aa ?_;refine BJ (BL rfl) rfl rfl rfl ?_;rintro _ _ ⟨b4,rfl,rfl⟩;refine AS (ρ:=sng b4 _) takeZ ?_
 have c0:=rdB b4 48 [int h.c,int h.a,int h.b,int h.k]
 refine Aaj ?_;refine Aab ?_;refine BD ?_;refine Abv ?_;refine Aaj ?_;refine Aa2 ?_
 refine BU [0,2,4,8] (X:=Nat × Nat) (0,l.length) (fun x=>x.1≤x.2∧x.2≤l.length∧(∀ y∈l.take x.1,cmpBk y h<0)∧(∀ y∈l.drop x.2,0≤cmpBk y h)) (fun x=>[(9,int x.1),(10,int x.2)]) (fun _=>[]) (fun x=>x.2-x.1)
  pickZ ⟨by dsimp only; omega,by dsimp only; omega,by simp,by simp⟩ covZ selZ ?_
 rintro ⟨i,j⟩ ⟨h1,h2,h3,h4⟩
 dsimp only at h1 h2 h3 h4 ⊢
 by_cases hlt:i<j
 ·have hh:(i+j) / 2<l.length:=by omega
  have hx:=List.getElem?_eq_getElem hh
  obtain ⟨b',o,rfl,hRd,_⟩:=bkRow hr hx
  have hcm:=bkCompare_spec l[(i+j) / 2] h
  have hlow:cmpBk l[(i+j) / 2] h<0→∀ y∈l.take ((i+j) / 2+1),cmpBk y h<0:=fun hc y hy=>by
   obtain ⟨u,hu,rfl⟩:=List.getElem_of_mem hy
   rw [List.length_take] at hu;rw [List.getElem_take]
   by_cases e:u=(i+j) / 2
   ·subst e; exact hc
   ·exact cmpBk_lt_trans (hgi u ((i+j) / 2) (by omega) hh (by omega)) hc
  have hup:0≤cmpBk l[(i+j) / 2] h→∀ y∈l.drop ((i+j) / 2),0≤cmpBk y h:=fun hc y hy=>by
   obtain ⟨u,hu,rfl⟩:=List.getElem_of_mem hy
   rw [List.length_drop] at hu;rw [List.getElem_drop]
   by_cases e:u=0
   ·subst e; simpa using hc
   ·by_cases d:cmpBk l[(i+j) / 2+u] h<0
    ·have:=cmpBk_lt_trans (hgi ((i+j) / 2) ((i+j) / 2+u) hh (by omega) (by omega)) d
     omega
    ·omega
  generalize l[(i+j) / 2]=x at hRd hcm hlow hup
  refine Aah ?_;refine AB ?_;refine B7 ?_;refine Aai ?_;refine AN ?_;refine A5 ?_;refine Aar ?_;refine CD ?_
  rw [show (i:Int)+(j:Int)=((i+j:Nat):Int) from by omega]
  focus ((refine' BT _ rfl rfl rfl _; rotate_left; (apply q_toU; exact rfl; exact rfl; exact rfl; omega)))
  focus ((refine' BT _ rfl rfl rfl _; rotate_left; (apply FN; exact rfl; exact rfl; decide)))
  refine FL ?_;refine Ad ?_
  refine BB (.q 0 (.q 1 (.q 2 (.q 3 (.q 4 (.q 5 (.l 6 .e (.q 7 .nil)))))))) [] rfl (by kernel_rfl) Sel.nil ?_
  refine Abp ?_;refine AL ?_;refine CE ?_;refine BP ?_;refine BP ?_;refine BQ (CI rfl hcm rfl rfl rdZ rfl rfl ?_);rintro _ rfl
  by_cases hc:cmpBk x h<0
  ·have hnew:=hlow hc
   generalize cmpBk x h=z at hc hlow hup
   refine F3 ?_;refine Aci ?_;refine Ac7 ?_;refine BS ?_;refine Aaa ?_;refine BH ?_
   exact BG ((i+j) / 2+1,j) ⟨by dsimp only; omega,h2,hnew,h4⟩ (by dsimp only; omega) covZ selZ
  ·have hnew:=hup (by omega)
   generalize cmpBk x h=z at hc hlow hup
   refine DR ?_;refine A8 ?_;refine AM rfl ?_;refine Ac7 ?_;refine Aaa ?_;refine BH ?_
   exact BG (i,(i+j) / 2) ⟨by dsimp only; omega,by dsimp only; omega,h3,hnew⟩ (by dsimp only; omega) covZ selZ
 ·have e:i=j:=by omega
  subst e
  by_cases hlt2:i<l.length
  ·have hx:=List.getElem?_eq_getElem hlt2
   obtain ⟨b',o,rfl,hRd,_⟩:=bkRow hr hx
   have hcm:=bkCompare_spec l[i] h
   generalize l[i]=x at hRd hcm
   refine Aah ?_;refine AB ?_;refine BK ?_;refine Adh ?_;refine AD ?_
   refine BB (.q 0 (.q 1 (.q 2 (.q 3 (.q 4 (.q 5 (.q 6 (.q 7 (.q 8 (.q 9 (.q 10 (.l 11 .e (.q 12 (.q 13 (.q 14 (.q 15 .nil)))))))))))))))) [] rfl (by kernel_rfl) Sel.nil ?_
   refine Abp ?_;refine AL ?_;refine F3 ?_;refine Abp ?_;refine Abp ?_;refine CE ?_;refine BP ?_;refine BP ?_;refine BQ (CI rfl hcm rfl rfl rdZ rfl rfl ?_);rintro _ rfl
   generalize cmpBk x h=z
   by_cases he:z=0
   ·refine ED ?_
    refine BY ?_;refine Abo ?_
    skip
    exact AK (res2 rfl rfl rfl) rsubZ selZ ⟨rfl,i,true,h2,h3,h4,rfl⟩
   ·refine D9 ?_
    refine BY ?_;refine Abo ?_
    skip
    exact AK (res2 rfl rfl rfl) rsubZ selZ ⟨rfl,i,false,h2,h3,h4,rfl⟩
  ·refine AD ?_
   refine Aar ?_;refine BK ?_;refine Adh ?_;refine AD ?_
   refine BB P1Z [] rfl (by kernel_rfl) Sel.nil ?_
   refine Abp ?_;refine AL ?_;refine DR ?_;refine Acx ?_;refine CB ?_;refine Abo ?_
   skip
   exact AK (res2 rfl rfl rfl) rsubZ selZ ⟨rfl,i,false,h2,h3,h4,rfl⟩
theorem bkOver_spec (bx:Nat) (x:Bk) (s:Int × Int):Ans Tryz.prog (.func (.func 24) #[] #[.pointer (some ⟨bx,0,none⟩)]) [.agg (encS s).toArray] [sng bx (.cells #[int x.c,int x.a,int x.b,int x.k] 48 (0,0))] (fun r=>r=.bool (overB x s)):=by
 refine spec_in (cap:=[.pointer (some ⟨bx,0,none⟩)]) Tryz.func24 rfl rfl Tryz.ntmps24 rfl envZ (fun N β=>?_)
 unfold overB
 have bx634_4:=rdB bx 48 [int x.c,int x.a,int x.b,int x.k]
 have c0:=rdC bx634_4 0
 have c1:=rdC bx634_4 1
 have c2:=rdC bx634_4 2
 have c3:=rdC bx634_4 3
 by_cases h1:s.1<x.b
 ·by_cases h2:x.a<s.2
  ·rw [decide_eq_true h1,decide_eq_true h2]
   refine Aa ?_;refine CW ?_; rintro _ _ ⟨b,rfl,rfl⟩;refine Adz ?_;refine B7 ?_;refine Ab3 ?_;refine B7 ?_;refine Abm ?_;exact A9 ⟨rfl,rfl⟩
  ·rw [decide_eq_true h1,decide_eq_false h2]
   refine Aa ?_;refine CW ?_; rintro _ _ ⟨b,rfl,rfl⟩;refine Adz ?_;refine B7 ?_;refine Ab3 ?_;refine BK ?_;refine Abm ?_;exact A9 ⟨rfl,rfl⟩
 ·rw [decide_eq_false h1,Bool.false_and]
  refine Aa ?_;refine CW ?_; rintro _ _ ⟨b,rfl,rfl⟩;refine Adz ?_;refine BK ?_;refine Acf ?_;refine Ac2 ?_;exact A9 ⟨rfl,rfl⟩
theorem bkInsert_spec (σ:PH) (p:Option Addr) (kk:Nat) (l:List Bk) (x:Bk) (hv:BkAt σ (.slice p l.length kk) l) (hs:l.Pairwise (fun x y=>cmpBk x y<0)) (hl:l.length≤600) :
  Makes Tryz.prog (fv 25) [.slice p l.length kk,.agg #[int x.c,int x.a,int x.b,int x.k]] [σ] (fun r χ=>∃ k,(∀ y∈l.take k,cmpBk y x<0)∧(∀ y∈l.drop k,0≤cmpBk y x)∧OwnS 48 4 r (insL l k x).length ((insL l k x).flatMap encB) χ):=by
 have hcl:=cloneB_spec σ (.slice p l.length kk) l hv (by omega)
 refine spec_in (cap:=[]) Tryz.func25 rfl rfl Tryz.ntmps25 rfl envZ (fun N β=>?_)
 refine Aa ?_;refine BJ (BL rfl) rfl rfl rfl ?_;rintro _ _ ⟨b3,rfl,rfl⟩;refine AS (ρ:=sng b3 _) takeZ ?_
 have c:=rdB b3 48 [int x.c,int x.a,int x.b,int x.k]
 have c0:=rdC c 0
 have c1:=rdC c 1
 have c2:=rdC c 2
 have c3:=rdC c 3
 refine Abv ?_;refine AQ ?_
 refine AT (bsearchB_spec σ _ l x hv hs (by omega)) rfl rfl rdZ rfl rfl ?_
 rintro _ ⟨k,bo,hk,hk1,hk2,rfl⟩;refine Aa7 ?_;refine AD ?_
 refine BB (.q 0 (.q 2 (.q 3 (.l2 1 .e (.l 4 .e (.l 5 .b (.q 6 .nil))) 4 .e (.l 1 .e (.l 5 .b (.q 6 .nil))))))) [] rfl (by kernel_rfl) Sel.nil ?_
 repeat' (first
  | (refine AL ?_)
  | (refine BP ?_)
  | (refine C4 ?_ ?_)
  | (refine EQ ?_; rintro _ _ ⟨b,rfl,rfl⟩)
  | fail)
 ·refine BX rfl hcl rfl rfl rdZ rfl rfl ?_
  rintro ucl _ ⟨σc,hOc,rfl⟩;refine DT ?_; rintro _ _ ⟨b,rfl,rfl⟩
  refine BQ (CH rfl (insertB_spec σc b ucl l k x hOc hk (by omega)) rfl rfl takesZ rdZ rfl rfl (fun _ _ _ w hw=>hw.sel Sel.nil) ?_)
  rintro ui _ ⟨σi,hOi,rfl⟩;refine Aaq ?_
  skip
  exact AK (res1 rfl rfl) rsubZ selZ ⟨σi,⟨k,hk1,hk2,hOi⟩,rfl⟩
 ·refine BQ (BX rfl hcl rfl rfl rdZ rfl rfl ?_)
  rintro ucl _ ⟨σc,hOc,rfl⟩
  refine BQ (CH rfl (insertB_spec σc b ucl l k x hOc hk (by omega)) rfl rfl takesZ rdZ rfl rfl (fun _ _ _ w hw=>hw.sel Sel.nil) ?_)
  rintro ui _ ⟨σi,hOi,rfl⟩;refine Aaq ?_
  skip
  exact AK (res1 rfl rfl) rsubZ selZ ⟨σi,⟨k,hk1,hk2,hOi⟩,rfl⟩
end Go.Proofs.YtekcielcagdcmaaGreatDoor
namespace Go.Step
structure Rq where
  src:Int
  dst:Int
  size:Int
  rdy:Int
  dln:Int
  pri:Int
  cus:Bool
structure Lb where
  n:Int
  f:Int
  t:Int
  a:Int
structure Hp where
  c:Int
  b:Int
  e:Int
  a:Int
structure Gr where
  cs:List Ct
  q:Rq
  gaps:List (List (Int × Int))
  rooms:List (List (Int × Int))
  dur:List Int
def hopB (fr d:Int):List (Int × Int)→Option Int
  | []=>none
  | p::l=>if max p.1 fr+d≤p.2 then some (max p.1 fr) else hopB fr d l
def roomsR (G:Gr) (n:Int):List (Int × Int):=if n=G.q.dst then [(0,1099511627776)] else G.rooms.getD n.toNat []
def hopR (G:Gr) (i:Nat) (c:Ct) (fr:Int):Option Hp:=(hopB fr (G.dur.getD i 0) (G.gaps.getD i [])).map fun b=>⟨i,b,b+G.dur.getD i 0,b+G.dur.getD i 0+c.g⟩
def leaveR (G:Gr) (c:Ct) (h:Hp):Int:=if G.q.cus then h.e+2*c.g else h.e
def mv1 (G:Gr) (x:Lb) (i:Nat) (c:Ct) (r:Int × Int):Option (Lb × Hp):=match hopR G i c (max x.a r.1) with
  | none=>none
  | some h=>if x.t<leaveR G c h∨G.q.dln<h.a∨(c.t≠G.q.dst∧r.2≤h.a) then none else some (⟨c.t,r.1,r.2,h.a⟩,h)
def mvC (G:Gr) (x:Lb) (i:Nat) (c:Ct):List (Lb × Hp):=if c.f≠x.n then [] else (roomsR G c.t).filterMap (mv1 G x i c)
def mvF (G:Gr) (x:Lb):Nat→List Ct→List (Lb × Hp)
  | _,[]=>[]
  | i,c::l=>mvC G x i c ++ mvF G x (i+1) l
def mvs (G:Gr) (x:Lb):List (Lb × Hp):=mvF G x 0 G.cs
structure GOK (G:Gr):Prop where
  cs:∀ c∈G.cs,chkCt c=0∧c.t<G.rooms.length
  lc:G.cs.length≤11
  gl:G.gaps.length=G.cs.length
  dl:G.dur.length=G.cs.length
  gap:∀ l∈G.gaps,l.length≤600∧∀ p∈l,0≤p.1∧p.1<p.2∧p.2≤1099511627776
  room:∀ l∈G.rooms,l.length≤1100∧l.Pairwise (fun p q=>p.2<q.1)∧∀ p∈l,0≤p.1∧p.1<p.2∧p.2≤1099511627776
  rl:G.rooms.length≤6
  dur:∀ d∈G.dur,1≤d∧d≤1099511627776
  q:0≤G.q.src∧G.q.src<G.rooms.length∧0≤G.q.dst∧G.q.dst<G.rooms.length∧0≤G.q.rdy∧G.q.rdy≤G.q.dln∧G.q.dln≤1099511627776∧G.q.src≠G.q.dst
theorem fold_take {α β:Type} (f:β→α→β) {l:List α} {i:Nat} {x:α} (h:l[i]?=some x) (b:β):(l.take (i+1)).foldl f b=f ((l.take i).foldl f b) x:=by
  rw [List.take_add_one,h,List.foldl_append]; rfl
end Go.Step
namespace Go.Step
def sameL (x y:Lb):Bool:=decide (x.n=y.n) && decide (x.f=y.f)
def begs (G:Gr):List Lb:=((G.rooms.getD G.q.src.toNat []).filter (fun p=>decide (p.1≤G.q.rdy) && decide (G.q.rdy<p.2))).map (fun p=>⟨G.q.src,p.1,p.2,G.q.rdy⟩)
inductive RchL (G:Gr):Lb→Prop
  | beg {x:Lb}:x∈begs G→RchL G x
  | mv {x:Lb} {m:Lb × Hp}:RchL G x→m∈mvs G x→m.1.n≠G.q.dst→RchL G m.1
def Fine (G:Gr) (x:Lb):Prop:=x.n≠G.q.dst∧0≤x.n∧x.n<G.rooms.length∧(x.f,x.t)∈G.rooms.getD x.n.toNat []∧x.f≤x.a∧x.a<x.t
def CovL (D:List Lb) (x:Lb):Prop:=∃ y∈D,sameL y x=true∧y.a≤x.a
structure LabI (G:Gr) (D O:List Lb):Prop where
  rch:∀ x∈D ++ O,RchL G x
  dis:D.Pairwise (fun x y=>sameL x y=false)
  ord:∀ x∈D,∀ y∈O,x.a≤y.a∧sameL x y=false
  beg:∀ x∈begs G,CovL (D ++ O) x
  clo:∀ x∈D,∀ m∈mvs G x,m.1.n≠G.q.dst→CovL (D ++ O) m.1
  len:O.length≤1100+12100*D.length
def newL (G:Gr) (D:List Lb) (ms:List (Lb × Hp)):List Lb:=(ms.filter (fun m=>decide (m.1.n≠G.q.dst) && !D.any (sameL m.1))).map (·.1)
/-! only so many labels can be done -/
def keyR:Nat→List (List (Int × Int))→List (Int × Int)
  | _,[]=>[]
  | n,l::r=>l.map (fun p=>((n:Int),p.1)) ++ keyR (n+1) r
structure LabR (G:Gr) (L:List Lb):Prop where
  rch:∀ x∈L,RchL G x
  beg:∀ x∈begs G,CovL L x
  clo:∀ x∈L,∀ m∈mvs G x,m.1.n≠G.q.dst→CovL L m.1
  len:L.length≤6600
  dis:L.Pairwise (fun x y=>sameL x y=false)
end Go.Step
namespace Go.Step
def segsF:Nat→Int→List Int
  | 0,_=>[]
  | n+1,left=>if 0<left then min left 16::segsF n (left-16) else []
def segsL (s:Int):List Int:=segsF s.toNat s
def tickC (c:Ct) (n:Int):Int:=(n+8+c.r-1) / c.r
def passC (c:Ct) (s:Int):Int:=(segsL s).foldl (fun a n=>a+tickC c n) 0
def durC (c:Ct) (s:Int):Int:=passC c s+c.l*(2*c.g+1+tickC c 16)
theorem segsF_ok:∀ (n:Nat) (s:Int),s≤n→(∀ x∈segsF n s,1≤x∧x≤16)∧(∀ (j:Nat) x,(segsF n s)[j]?=some x→x=min (s-16*j) 16∧0<s-16*j)∧(0<s→0<(segsF n s).length)∧16*(segsF n s).length<max 0 s+16∧s≤16*(segsF n s).length
  | 0,s,h=>⟨fun x hx=>(by cases hx),fun j x hx=>(by cases hx),fun h0=>(by omega),by simp [segsF]; omega,by simp [segsF]; omega⟩
  | n+1,s,h=>by
    unfold segsF
    by_cases h0:0<s
    · obtain ⟨a,b,c,d,e⟩:=segsF_ok n (s-16) (by omega)
      rw [if_pos h0]
      refine ⟨fun x hx=>?_,fun j x hx=>?_,fun _=>by simp,?_,?_⟩
      · rcases List.mem_cons.1 hx with rfl|hx
        · omega
        · exact a x hx
      · cases j with
        | zero=>simp at hx; subst hx; exact ⟨by simp,by omega⟩
        | succ j =>
          simp only [List.getElem?_cons_succ] at hx
          have:=b j x hx
          omega
      · rw [List.length_cons]; omega
      · rw [List.length_cons]; omega
    · rw [if_neg h0]
      refine ⟨fun x hx=>(by cases hx),fun j x hx=>(by cases hx),fun h=>absurd h h0,?_,?_⟩
      · simp; omega
      · simp; omega
theorem segsL_ok (s:Int) (h0:0≤s):(∀ x∈segsL s,1≤x∧x≤16)∧(∀ (j:Nat) x,(segsL s)[j]?=some x→x=min (s-16*j) 16∧0<s-16*j)∧(0<s→0<(segsL s).length)∧16*(segsL s).length<max 0 s+16∧s≤16*(segsL s).length:=segsF_ok _ _ (by omega)
theorem tickC_bd {c:Ct} {n:Int} (hr:1≤c.r) (hn:1≤n∧n≤16):1≤tickC c n∧tickC c n≤24:=by
  unfold tickC
  constructor
  · exact (Int.le_ediv_iff_mul_le (by omega)).2 (by omega)
  · refine Int.le_of_lt_add_one ((Int.ediv_lt_iff_lt_mul (by omega)).2 ?_)
    have:c.r*24≥24+24*(c.r-1):=by omega
    omega
theorem fold_bd (c:Ct) (hr:1≤c.r):∀ (l:List Int) (a:Int),(∀ x∈l,1≤x∧x≤16)→a+l.length≤l.foldl (fun a n=>a+tickC c n) a∧l.foldl (fun a n=>a+tickC c n) a≤a+24*l.length
  | [],a,h=>by simp
  | x::l,a,h=>by
    have:=fold_bd c hr l (a+tickC c x) (fun y hy=>h y (by simp [hy]))
    have hx:=tickC_bd hr (h x (by simp))
    rw [List.foldl_cons,List.length_cons];omega
theorem durC_bd {c:Ct} {s:Int} (hc:chkCt c=0) (hs:1≤s∧s≤65536):1≤durC c s∧durC c s≤40000000∧0≤passC c s∧passC c s≤100000:=by
  have hok:okCt c:=by
    unfold chkCt at hc
    split at hc
    · omega
    · rename_i h; exact Decidable.not_not.1 h
  obtain ⟨_,_,hr,hg,hl⟩:=hok
  obtain ⟨a,b,d,e,f⟩:=segsL_ok s (by omega)
  have h1:=fold_bd c hr.1 (segsL s) 0 a
  have h2:=d (by omega)
  have h3:=tickC_bd (c:=c) (n:=16) hr.1 (by omega)
  have h4:0≤c.l*(2*c.g+1+tickC c 16)∧c.l*(2*c.g+1+tickC c 16)≤16*(2*c.g+1+tickC c 16):=⟨Int.mul_nonneg hl.1 (by omega),Int.mul_le_mul_of_nonneg_right hl.2 (by omega)⟩
  unfold durC passC;omega
def okRq (n:Nat) (q:Rq):Prop:=(0≤q.src∧q.src<n∧0≤q.dst∧q.dst<n)∧q.src≠q.dst∧(1≤q.size∧q.size≤65536∧0≤q.rdy∧q.rdy≤q.dln∧q.dln≤1099511627776)∧0≤q.pri∧q.pri≤2
theorem ctE_ok {n:Nat} {cs:List Ct} {i:Nat} {c:Ct} (hc:cs[i]?=some c) (h:ctE n cs i=0):chkCt c=0∧c.f<n∧c.t<n:=by
  unfold ctE at h;rw [hc] at h;simp only at h
  split at h
  · contradiction
  · rename_i h1
    split at h
    · omega
    · exact ⟨Decidable.not_not.1 h1,by omega,by omega⟩
theorem chkPl_ok {qs:List Int} {cs:List Ct} (h:chkPl qs cs=0):(1≤qs.length∧qs.length≤16∧cs.length≤64)∧firstE (quoE qs) qs.length=0∧firstE (ctE qs.length cs) cs.length=0:=by
  unfold chkPl at h
  split at h
  · omega
  · split at h
    · contradiction
    · rename_i h1 h2
      exact ⟨by omega,Decidable.not_not.1 h2,h⟩
theorem chkPl_ct {qs:List Int} {cs:List Ct} (h:chkPl qs cs=0) {c:Ct} (hc:c∈cs):chkCt c=0∧c.f<qs.length∧c.t<qs.length:=by
  obtain ⟨i,hi,rfl⟩:=List.getElem_of_mem hc
  exact ctE_ok (List.getElem?_eq_getElem hi) (firstE_zero (chkPl_ok h).2.2 i hi)
section
variable {qs:List Int} {cs:List Ct} {bs:List Bk} {hs:List Hd} {q:Rq}
end
end Go.Step
namespace Go.Proofs.YtekcielcagdcmaaGreatDoor
open Go.Eng Go.Step
set_option maxRecDepth 100000
set_option maxHeartbeats 64000000
theorem okCt_of {c:Ct} (hc:chkCt c=0):okCt c:=by
 unfold chkCt at hc
 split at hc
 ·omega
 ·rename_i h; exact Decidable.not_not.1 h
theorem ticks_spec (c:Ct) (n:Int) (hr:1≤c.r∧c.r≤1000) (hn:1≤n∧n≤16):Ans Tryz.prog (fv 83) [.agg #[int c.f,int c.t,int c.s,int c.e,int c.r,int c.g,int c.l],int n] [] (fun r=>r=int (tickC c n)):=by
 refine spec_in (cap:=[]) Tryz.func83 rfl rfl Tryz.ntmps83 rfl envZ (fun N β=>?_)
 unfold tickC;refine Aa ?_;refine CW ?_; rintro _ _ ⟨b,rfl,rfl⟩;refine Abv ?_;refine CD ?_;refine Aad ?_;refine CD ?_;refine DM ?_;refine Aad ?_;refine F5 ?_;refine Aaa ?_;exact A9 ⟨rfl,rfl⟩
theorem segs_spec (s:Int):Eng.Spec Tryz.prog (fv 126) [int s] [] [] (fun r H'=>∃ c1,r=.func (.func 165) #[] #[.pointer (some ⟨c1,0,none⟩)]∧H'=[sng c1 (.cells #[int s] 3 (0,0))]):=by
 refine spec_in (cap:=[]) Tryz.func126 rfl rfl Tryz.ntmps126 rfl envZ (fun N β=>?_)
 refine Aa ?_;refine BJ (DZ rfl rfl) rfl rfl rfl ?_;rintro _ _ ⟨c1,rfl,rfl⟩;refine Ach ?_;refine BZ ?_;refine Aaa ?_;exact AK (res1 rfl rfl) rsubZ selZ ⟨c1,rfl,rfl⟩
theorem segs_iter (c1:Nat) (s:Int) (hs:1≤s∧s≤65536) :
  Iter Tryz.prog (.func (.func 165) #[] #[.pointer (some ⟨c1,0,none⟩)]) [sng c1 (.cells #[int s] 3 (0,0))] ((segsL s).map (fun n=>[int n])):=by
 intro y S Own Inv Stop Ry hy hyl σ0 hI0
 obtain ⟨yl,rfl⟩:=hyl
 obtain ⟨h1,h2,h3,h4,h5⟩:=segsL_ok s (by omega)
 generalize segsL s=Q at hy hI0 h1 h2 h3 h4 h5 ⊢
 have bx59_3:=rdB c1 3 [int s]
 have v1:=rdC bx59_3 0
 simp only [List.cons_append,List.nil_append]
 refine spec_in (cap:=[.pointer (some ⟨c1,0,none⟩)]) Tryz.func165 rfl rfl Tryz.ntmps165 rfl envZ (fun N β=>?_)
 refine Ac ?_;refine Aaa ?_;refine A5 ?_
 refine BU [0,1] (X:=Nat × Int × S) (0,s,σ0) (fun z=>z.1≤Q.length∧z.2.1=s-16*z.1∧Inv z.1 z.2.2) (fun z=>[(3,int z.2.1)]) (fun z=>Own z.2.2) (fun z=>Q.length-z.1) pickZ ⟨by dsimp only; omega,by dsimp only; omega,hI0⟩ covZ Sel.refl ?_
 rintro ⟨k,lf,σ1⟩ ⟨hk,hlf,hI⟩
 dsimp only at hk hlf hI ⊢
 by_cases hlt:k<Q.length
 rotate_left
 ·have hke:k=Q.length:=by omega
  subst hke;refine Aah ?_;refine BO ?_;refine Adh ?_
  refine BV (res0 rfl) (fun _ h=>h) Sel.refl ⟨σ1,rfl,.inl ?_⟩
  rw [List.length_map];exact hI
 have hx:=List.getElem?_eq_getElem hlt
 have hb:=h1 _ (List.mem_of_getElem? hx)
 obtain ⟨e1,e2⟩:=h2 k _ hx
 have hya:=hy k σ1 [int Q[k]] (by rw [List.getElem?_map,hx]; rfl) hI
 rw [← hlf] at e1 e2
 generalize Q[k]=x at hx hb e1 hya
 refine Aah ?_;refine DA ?_;refine Aai ?_;refine AN ?_;refine Aa2 ?_;refine Aar ?_;refine FJ ?_
 focus ((rw [← e1]))
 refine BI hya rfl rfl Takes.all (fun τ hτ=>.inl (by simp [hτ])) rfl rfl ?_
 rintro _ H' ⟨σ2,rfl,⟨rfl,hI2⟩|⟨rfl,hSt⟩⟩
 ·rw [List.append_nil]
  refine Abr ?_;refine Abb ?_;refine AB ?_;refine DM ?_;refine Aaa ?_
  exact BG (k+1,lf-16,σ2) ⟨by dsimp only; omega,by dsimp only; omega,hI2⟩ (by dsimp only; omega) covZ Sel.refl
 ·rw [List.append_nil]
  refine BE ?_;refine Aai ?_
  exact AK (res0 rfl) (fun _ h=>h) Sel.refl ⟨σ2,rfl,.inr hSt⟩
theorem pass_spec (c:Ct) (s:Int) (hr:1≤c.r∧c.r≤1000) (hs:1≤s∧s≤65536):Ans Tryz.prog (fv 82) [.agg #[int c.f,int c.t,int c.s,int c.e,int c.r,int c.g,int c.l],int s] [] (fun r=>r=int (passC c s)):=by
 refine spec_in (cap:=[]) Tryz.func82 rfl rfl Tryz.ntmps82 rfl envZ (fun N β=>?_)
 obtain ⟨h1,h2,h3,h4,h5⟩:=segsL_ok s (by omega)
 have htk:=fun n hn=>ticks_spec c n hr hn
 refine Aa ?_;refine BJ (BL rfl) rfl rfl rfl ?_;rintro _ _ ⟨b2,rfl,rfl⟩;refine AS (ρ:=sng b2 _) takeZ ?_
 have cb:=rdB b2 23 [int c.f,int c.t,int c.s,int c.e,int c.r,int c.g,int c.l]
 refine Ach ?_;refine CQ ?_; rintro _ _ ⟨b,rfl,rfl⟩;refine BC ?_; rintro _ _ ⟨rfl,rfl⟩;refine Adi ?_
 revert b; intro b5
 refine BI (segs_spec s) rfl rfl takesZ rdZ rfl rfl ?_;rintro _ _ ⟨c1,rfl,rfl⟩;simp only [List.cons_append,List.nil_append];refine AS (ρ:=sng c1 _) takeZ ?_;refine AE ?_;refine A5 ?_
 refine EL (gf:=165) (cap:=[.pointer (some ⟨c1,0,none⟩)]) (ps:=[9]) (X:=Int) rfl Tryz.func165 rfl rfl
  (segs_iter c1 s hs) ?_ (fun j o=>o=((segsL s).take j).foldl (fun a n=>a+tickC c n) 0) (fun o=>[sng b5 (.cells #[int o] 3 (0,0))]) (fun _ _=>False) (0:Int) rfl takesZ rfl ?_ ?_ ?_
 ·intro σ hσ
  simp only [List.mem_cons,List.not_mem_nil,or_false] at hσ ⊢
  simp [hσ]
 ·rintro lo r j o vs hvs hI hps has hbd hst hpe hfr
  obtain ⟨st,pe,fnn,tm,prm,asg,bdy,df⟩:=r
  simp only at hps has hbd hst hpe hfr;subst hps has hbd hst hpe;rw [List.getElem?_map] at hvs
  obtain ⟨n,hn,rfl⟩:=Option.map_eq_some_iff.1 hvs
  have hft:=fold_take (fun a n=>a+tickC c n) hn 0
  have hnb:=h1 n (List.mem_of_getElem? hn)
  have hbd:=fold_bd c hr.1 ((segsL s).take j) 0 (fun x hx=>h1 x (List.mem_of_mem_take hx))
  rw [← hI] at hft hbd;rw [List.length_take] at hbd
  have htn:=tickC_bd hr.1 hnb
  refine yield_spec hfr rfl (by intro p hp; simp at hp; omega) putiZ (fun N' β'=>?_)
  refine AA ?_;refine Aaa ?_;refine DO rfl rfl ?_;refine D4 takeZ rfl ?_;refine A5 ?_
  refine BB (.q 0 (.q 1 (.q 2 (.l 3 .e (.q 4 (.l 5 .b .nil)))))) [] rfl (by kernel_rfl) selZ ?_
  refine AX ?_;refine BP ?_;refine AL ?_;refine BQ (CI rfl (htk n hnb) rfl rfl rdZ rfl rfl ?_);rintro _ rfl;refine DI ?_;refine CT ?_; rintro _ _ ⟨rfl,rfl⟩;refine A8 ?_;refine BH ?_;exact CV takeZ rsubZ selZ ⟨_,.inl ⟨rfl,hft.symm,rfl⟩⟩
 ·rintro bm o hI
  rw [List.length_map,List.take_length] at hI;subst hI;refine BH ?_;refine Ac ?_;refine Aaa ?_;exact EM (Marks.cons .here .nil) (res1 rfl rfl) rsubZ selZ ⟨rfl,rfl⟩
 ·rintro bm cc o' hf
  exact hf.elim
theorem dur0_spec (c:Ct) (s:Int) (hc:chkCt c=0) (hs:1≤s∧s≤65536):Ans Tryz.prog (fv 40) [.agg #[int c.f,int c.t,int c.s,int c.e,int c.r,int c.g,int c.l],int s] [] (fun r=>r=int (durC c s)):=by
 have hbd:=durC_bd hc hs
 obtain ⟨hfr,htr,hr,hg,hl⟩:=okCt_of hc
 have hps:=pass_spec c s hr hs
 have htk:=ticks_spec c 16 hr (by omega)
 have hm:0≤c.l*(2*c.g+1+tickC c 16)∧c.l*(2*c.g+1+tickC c 16)≤40000000:=by
  have:=tickC_bd (c:=c) (n:=16) hr.1 (by omega)
  exact ⟨Int.mul_nonneg hl.1 (by omega),by unfold durC at hbd; omega⟩
 have ht:=tickC_bd (c:=c) (n:=16) hr.1 (by omega)
 unfold durC at hbd ⊢
 refine spec_in (cap:=[]) Tryz.func40 rfl rfl Tryz.ntmps40 rfl envZ (fun N β=>?_)
 refine Aa ?_;refine BJ (BL rfl) rfl rfl rfl ?_;rintro _ _ ⟨b2,rfl,rfl⟩;refine AS (ρ:=sng b2 _) takeZ ?_
 have cb:=rdB b2 23 [int c.f,int c.t,int c.s,int c.e,int c.r,int c.g,int c.l]
 have f5:=rdC cb 5
 have f6:=rdC cb 6
 refine Ad ?_
 refine BB (.q 0 (.q 1 (.q 3 (.q 4 (.q 5 (.q 6 (.q 7 (.q 8 (.q 9 (.l 2 .e (.l 10 .e (.q 11 (.q 12 (.q 13 (.q 14 .nil))))))))))))))) [] rfl (by kernel_rfl) selZ ?_
 refine BP ?_;refine Ab2 ?_;refine Aan ?_;refine GI ?_;refine DI ?_;refine BP ?_;refine BQ (CI rfl hps rfl rfl rdZ rfl rfl ?_);rintro _ rfl
 skip
 refine BQ (CI rfl htk rfl rfl rdZ rfl rfl ?_);rintro _ rfl;refine DI ?_;refine GI ?_;refine DI ?_;refine Aaq ?_
 skip
 exact A9 ⟨rfl,rfl⟩
theorem chk98_spec (c:Ct) (s:Int) (hc:chkCt c=0) (hs:1≤s∧s≤65536):Ans Tryz.prog (fv 39) [.agg #[int c.f,int c.t,int c.s,int c.e,int c.r,int c.g,int c.l],int s] [] (fun r=>r=int 0):=by
 have hck:=ctCheck_spec c
 rw [hc] at hck
 refine spec_in (cap:=[]) Tryz.func39 rfl rfl Tryz.ntmps39 rfl envZ (fun N β=>?_)
 refine Aa ?_;refine BJ (BL rfl) rfl rfl rfl ?_;rintro _ _ ⟨b2,rfl,rfl⟩;refine AS (ρ:=sng b2 _) takeZ ?_
 have cb:=rdB b2 23 [int c.f,int c.t,int c.s,int c.e,int c.r,int c.g,int c.l]
 refine Ads ?_;refine AT hck rfl rfl rdZ rfl rfl ?_;rintro _ rfl;refine Add ?_;refine AT (within_spec s 1 65536) rfl rfl rdZ rfl rfl ?_;rintro _ (⟨rfl,h⟩|⟨rfl,h⟩)
 ·refine BE ?_
  refine Aag ?_;refine Aal ?_;exact A9 ⟨rfl,rfl⟩
 ·omega
theorem dur_spec (c:Ct) (s:Int) (hc:chkCt c=0) (hs:1≤s∧s≤65536):Ans Tryz.prog (fv 15) [.agg #[int c.f,int c.t,int c.s,int c.e,int c.r,int c.g,int c.l],int s] [] (fun r=>r=.tuple #[int (durC c s),int 0]):=by
 have hck:=chk98_spec c s hc hs
 have hdu:=dur0_spec c s hc hs
 refine spec_in (cap:=[]) Tryz.func15 rfl rfl Tryz.ntmps15 rfl envZ (fun N β=>?_)
 refine Aa ?_;refine BJ (BL rfl) rfl rfl rfl ?_;rintro _ _ ⟨b2,rfl,rfl⟩;refine AS (ρ:=sng b2 _) takeZ ?_
 have cb:=rdB b2 23 [int c.f,int c.t,int c.s,int c.e,int c.r,int c.g,int c.l]
 refine Ac6 ?_;refine AB ?_;refine AT hck rfl rfl rdZ rfl rfl ?_;rintro _ rfl;refine Abv ?_;refine Aba ?_;refine Aau ?_;refine AB ?_;refine AT hdu rfl rfl rdZ rfl rfl ?_;rintro _ rfl;refine Aaj ?_;exact AK (res2 rfl rfl rfl) rsubZ selZ ⟨rfl,rfl⟩
end Go.Proofs.YtekcielcagdcmaaGreatDoor
namespace Go.Step
def pcs:Nat→Int→Int→Iv
  | 0,_,_=>[]
  | f+1,a,b=>if a<b then (a,min b ((a / 16+1)*16))::pcs f (min b ((a / 16+1)*16)) b else []
def pcsAll (M:Iv):Iv:=M.flatMap fun x=>pcs (x.2-x.1).toNat x.1 x.2
def lenI (M:Iv):Int:=(M.map fun x=>x.2-x.1).sum
theorem pcs_next {a b:Int} (_h0:0≤a) (h:a<b):a<min b ((a / 16+1)*16)∧min b ((a / 16+1)*16)≤b∧min b ((a / 16+1)*16)-a≤16:=by omega
theorem pcs_ok:∀ (f:Nat) (a b:Int),0≤a→(b-a).toNat≤f →
    (∀ x∈pcs f a b,a≤x.1∧x.1<x.2∧x.2≤b∧x.2-x.1≤16)∧(∀ t,memI (pcs f a b) t=decide (a≤t∧t<b))∧lenI (pcs f a b)=max 0 (b-a)∧(pcs f a b).Pairwise (fun x y=>x.2≤y.1)
  | 0,a,b,h0,hf=>by
    refine ⟨by simp [pcs],fun t=>?_,?_,.nil⟩
    · rw [decide_eq_false (by omega)]; rfl
    · simp [pcs,lenI]; omega
  | f+1,a,b,h0,hf=>by
    by_cases h:a<b
    · obtain ⟨n1,n2,n3⟩:=pcs_next h0 h
      obtain ⟨i1,i2,i3,i4⟩:=pcs_ok f (min b ((a / 16+1)*16)) b (by omega) (by omega)
      generalize hm:min b ((a / 16+1)*16)=m at n1 n2 n3 i1 i2 i3 i4
      have e:pcs (f+1) a b=(a,m)::pcs f m b:=by simp only [pcs,if_pos h,hm]
      rw [e]
      refine ⟨fun x hx=>?_,fun t=>?_,?_,List.pairwise_cons.2 ⟨fun y hy=>(i1 y hy).1,i4⟩⟩
      · rcases List.mem_cons.1 hx with rfl|hx
        · exact ⟨by simp,n1,n2,n3⟩
        · obtain ⟨a1,a2,a3,a4⟩:=i1 x hx
          exact ⟨by omega,a2,a3,a4⟩
      · rw [memI_cons,i2]
        have:inSp t (a,m)=decide (a≤t∧t<m):=by
          rw [Bool.eq_iff_iff,inSp_iff,decide_eq_true_iff]
        rw [this,← Bool.decide_or,decide_eq_decide];omega
      · have:lenI ((a,m)::pcs f m b)=(m-a)+lenI (pcs f m b):=by simp [lenI]
        rw [this,i3]; omega
    · have e:pcs (f+1) a b=[]:=by simp only [pcs,if_neg h]
      rw [e]
      refine ⟨by simp,fun t=>?_,?_,.nil⟩
      · rw [decide_eq_false (by omega)]; rfl
      · simp [lenI]; omega
theorem lenI_append (a b:Iv):lenI (a ++ b)=lenI a+lenI b:=by simp [lenI]
theorem pcsAll_ok:∀ {M:Iv},NormI M→(∀ x∈M,0≤x.1) →
    (∀ x∈pcsAll M,∃ y∈M,y.1≤x.1∧x.1<x.2∧x.2≤y.2∧x.2-x.1≤16)∧(∀ t,memI (pcsAll M) t=memI M t)∧lenI (pcsAll M)=lenI M∧(pcsAll M).Pairwise (fun x y=>x.2≤y.1)
  | [],_,_=>⟨by simp [pcsAll],fun _=>rfl,rfl,.nil⟩
  | x::M,hn,h0=>by
    obtain ⟨i1,i2,i3,i4⟩:=pcsAll_ok hn.tail (fun y hy=>h0 y (by simp [hy]))
    obtain ⟨j1,j2,j3,j4⟩:=pcs_ok (x.2-x.1).toNat x.1 x.2 (h0 x (by simp)) (Nat.le_refl _)
    have e:pcsAll (x::M)=pcs (x.2-x.1).toNat x.1 x.2 ++ pcsAll M:=by simp [pcsAll]
    obtain ⟨g1,g2⟩:=hn.hd
    rw [e]
    refine ⟨fun y hy=>?_,fun t=>?_,?_,?_⟩
    · rcases List.mem_append.1 hy with hy|hy
      · exact ⟨x,by simp,j1 y hy⟩
      · obtain ⟨z,hz,h⟩:=i1 y hy
        exact ⟨z,by simp [hz],h⟩
    · rw [memI_append,i2,j2,memI_cons]
      congr 1
      rw [Bool.eq_iff_iff,inSp_iff,decide_eq_true_iff]
    · rw [lenI_append,i3,j3]
      have:lenI (x::M)=(x.2-x.1)+lenI M:=by simp [lenI]
      rw [this]; omega
    · refine List.pairwise_append.2 ⟨j4,i4,fun y hy z hz=>?_⟩
      obtain ⟨u,hu,h1,_⟩:=i1 z hz
      have:=g2 u hu
      have:=(j1 y hy).2.2.1
      omega
def maskD (d:List UInt8) (K:Iv):List UInt8:=(List.range d.length).map fun (i:Nat)=>if memI K (i:Int) then d.getD i 0 else 0
theorem maskD_len (d:List UInt8) (K:Iv):(maskD d K).length=d.length:=by simp [maskD]
theorem maskD_get (d:List UInt8) (K:Iv) (i:Nat):(maskD d K)[i]?=if i<d.length then some (if memI K (i:Int) then d.getD i 0 else 0) else none:=by
  unfold maskD;rw [List.getElem?_map]
  by_cases h:i<d.length
  · rw [if_pos h,List.getElem?_range h]; rfl
  · rw [if_neg h,List.getElem?_eq_none (by simpa using h)]; rfl
theorem maskD_nil (d:List UInt8):maskD d []=List.replicate d.length 0:=by
  apply List.ext_getElem?
  intro i
  rw [maskD_get]
  by_cases h:i<d.length
  · rw [if_pos h,List.getElem?_replicate,if_pos h]; rfl
  · rw [if_neg h,List.getElem?_replicate,if_neg h]
theorem maskD_put {d:List UInt8} {K K':Iv} {a b:Nat} (hab:a≤b) (hb:b≤d.length) (hK:∀ t,memI K' t=(memI K t || decide ((a:Int)≤t∧t<(b:Int)))) :
    (maskD d K).take a ++ (d.drop a).take (b-a) ++ (maskD d K).drop b=maskD d K':=by
  apply List.ext_getElem?
  intro i
  rw [maskD_get]
  have hl:=maskD_len d K
  by_cases h1:i<a
  · rw [List.append_assoc,List.getElem?_append_left (by simp [hl]; omega),List.getElem?_take,if_pos h1,maskD_get,hK]
    rw [decide_eq_false (by omega),Bool.or_false]
  · by_cases h2:i<b
    · rw [List.getElem?_append_left (by simp [hl]; omega),List.getElem?_append_right (by simp [hl]; omega)]
      rw [List.length_take,hl,Nat.min_eq_left (by omega),List.getElem?_take,if_pos (by omega),List.getElem?_drop,if_pos (by omega),hK]
      rw [decide_eq_true (by omega),Bool.or_true,if_pos rfl]
      rw [show a+(i-a)=i from by omega]
      simp [List.getD_eq_getElem?_getD,List.getElem?_eq_getElem (show i<d.length by omega)]
    · rw [List.getElem?_append_right (by simp [hl]; omega)]
      rw [List.length_append,List.length_take,List.length_take,List.length_drop,hl,Nat.min_eq_left (by omega),Nat.min_eq_left (by omega),List.getElem?_drop,maskD_get]
      rw [show b+(i-(a+(b-a)))=i from by omega,hK]
      rw [decide_eq_false (by omega),Bool.or_false]
def InI (n:Int) (K:Iv):Prop:=NormI K∧∀ t,memI K t=true→0≤t∧t<n
theorem InI.nil (n:Int):InI n []:=⟨NormI.nil,fun t h=>by cases h⟩
theorem InI.at {n:Int} {K:Iv} (h:InI n K):∀ x∈K,0≤x.1∧x.1<x.2∧x.2≤n:=fun x hx=>by
  have h0:=h.1.1 x hx
  have h1:=h.2 x.1 (memI_iff.2 ⟨x,hx,by omega,h0⟩)
  have h2:=h.2 (x.2-1) (memI_iff.2 ⟨x,hx,by omega,by omega⟩)
  exact ⟨h1.1,h0,by omega⟩
theorem norm_len:∀ {K:Iv} {lo hi:Int},NormI K→lo≤hi+1→(∀ x∈K,lo≤x.1∧x.2≤hi)→2*(K.length:Int)≤hi-lo+1
  | [],lo,hi,_,h,_=>by simp; omega
  | x::K,lo,hi,hn,h,hk=>by
    have h1:=hk x (by simp)
    obtain ⟨g1,g2⟩:=hn.hd
    have:=norm_len (lo:=x.2+1) (hi:=hi) hn.tail (by omega) (fun y hy=>⟨by have:=g2 y hy; omega,(hk y (by simp [hy])).2⟩)
    simp only [List.length_cons,Int.natCast_add];omega
theorem InI.len {n:Int} {K:Iv} (h:InI n K) (hn:0≤n):2*(K.length:Int)≤n+1:=by
  have:=norm_len (lo:=0) (hi:=n) h.1 (by omega) (fun x hx=>by have:=h.at x hx; omega)
  omega
theorem InI.whole {n:Int} (hn:0<n):InI n [(0,n)]:=
  ⟨⟨by simp; exact hn,List.pairwise_singleton _ _⟩,fun t h=>by obtain ⟨x,hx,h1,h2⟩:=memI_iff.1 h; simp at hx; subst hx; exact ⟨h1,h2⟩⟩
theorem mem_one (a b t:Int):memI [(a,b)] t=decide (a≤t∧t<b):=by
  rw [Bool.eq_iff_iff,memI_iff,decide_eq_true_iff]; simp
theorem InI.all {n:Int} {K:Iv} (h:InI n K) (hn:0<n) (ha:∀ t,0≤t→t<n→memI K t=true):K=[(0,n)]:=
  normI_ext h.1 (InI.whole hn).1 (fun t=>by
    rw [mem_one]
    by_cases ht:0≤t∧t<n
    · rw [decide_eq_true ht,ha t ht.1 ht.2]
    · rw [decide_eq_false ht]
      cases hk:memI K t with
      | false=>rfl
      | true=>exact absurd (h.2 t hk) ht)
theorem InI.put {n:Int} {K:Iv} (h:InI n K) {a b:Int} (h0:0≤a) (hab:a<b) (hb:b≤n) :
    InI n (unionI K [(a,b)])∧(∀ t,memI (unionI K [(a,b)]) t=(memI K t || decide (a≤t∧t<b)))∧unionI K [(a,b)]≠[]:=by
  have h1:NormI [(a,b)]:=⟨by simp; exact hab,List.pairwise_singleton _ _⟩
  obtain ⟨k1,k2,_⟩:=combI_ok (f:=fun x y=>x || y) rfl h.1 h1
  have k3:∀ t,memI (unionI K [(a,b)]) t=(memI K t || decide (a≤t∧t<b)):=fun t=>by
    show memI (combI _ _ _) t=_
    rw [k2,mem_one]
  refine ⟨⟨k1,fun t ht=>?_⟩,k3,fun e=>?_⟩
  · rw [k3] at ht
    cases hk:memI K t with
    | true=>exact h.2 t hk
    | false =>
      rw [hk,Bool.false_or,decide_eq_true_iff] at ht;omega
  · have:=k3 a
    rw [e,decide_eq_true (by omega),Bool.or_true] at this
    cases this
def missI (n:Int) (K:Iv):Iv:=combI (fun x y=>x && !y) [(0,n)] K
theorem missI_ok {n:Int} {K:Iv} (h:InI n K) (hn:0<n):InI n (missI n K)∧∀ t,memI (missI n K) t=(decide (0≤t∧t<n) && !memI K t):=by
  obtain ⟨k1,k2,_⟩:=combI_ok (f:=fun x y=>x && !y) rfl (InI.whole hn).1 h.1
  have k3:∀ t,memI (missI n K) t=(decide (0≤t∧t<n) && !memI K t):=fun t=>by
    show memI (combI _ _ _) t=_
    rw [k2,mem_one]
  exact ⟨⟨k1,fun t ht=>by
    rw [k3,Bool.and_eq_true,decide_eq_true_iff] at ht
    exact ht.1⟩,k3⟩
theorem missI_none {n:Int} {K:Iv} (h:InI n K) (hn:0<n) (he:missI n K=[]):K=[(0,n)]:=
  h.all hn (fun t h1 h2=>by
    have:=(missI_ok h hn).2 t
    rw [he,decide_eq_true ⟨h1,h2⟩,Bool.true_and] at this
    cases hk:memI K t with
    | true=>rfl
    | false=>rw [hk] at this; cases this)
theorem missI_nil {n:Int} (hn:0<n):missI n []=[(0,n)]:=
  (missI_ok (InI.nil n) hn).1.all hn (fun t h1 h2=>by rw [(missI_ok (InI.nil n) hn).2,decide_eq_true ⟨h1,h2⟩]; rfl)
theorem InI.chk {n:Int} {K:Iv} (h:InI n K) (h0:0≤n) (hn:n≤1999):chkI K=0:=by
  have hl:=h.len h0
  refine chkI_of (by omega) h.1 (fun x hx=>?_)
  have:=h.at x hx
  exact ⟨this.2.1,by omega,by omega⟩
theorem maskD_piece {d:List UInt8} {K:Iv} {x y:Nat} (hxy:x≤y) (hy:y≤d.length) (hm:∀ t:Int,(x:Int)≤t→t<(y:Int)→memI K t=true):((maskD d K).drop x).take (y-x)=(d.drop x).take (y-x):=by
  apply List.ext_getElem?
  intro i
  rw [List.getElem?_take,List.getElem?_take]
  by_cases h:i<y-x
  · rw [if_pos h,if_pos h,List.getElem?_drop,List.getElem?_drop,maskD_get,if_pos (by omega),hm _ (by omega) (by omega),if_pos rfl]
    simp [List.getD_eq_getElem?_getD,List.getElem?_eq_getElem (show x+i<d.length by omega)]
  · rw [if_neg h,if_neg h]
theorem maskD_gap {d:List UInt8} {K:Iv} {x y:Nat} (_hxy:x≤y) (hy:y≤d.length) (hm:∀ t:Int,(x:Int)≤t→t<(y:Int)→memI K t=false):((maskD d K).drop x).take (y-x)=List.replicate (y-x) 0:=by
  apply List.ext_getElem?
  intro i
  rw [List.getElem?_take,List.getElem?_replicate]
  by_cases h:i<y-x
  · rw [if_pos h,if_pos h,List.getElem?_drop,maskD_get,if_pos (by omega),hm _ (by omega) (by omega)]
    rfl
  · rw [if_neg h,if_neg h]
theorem gap_mem {K:Iv} (h:NormI K) {i:Nat} {x:Int × Int} (hx:K[i]?=some x):(∀ t,(∀ y∈K.take i,y.2≤t)→t<x.1→memI K t=false):=by
  intro t h1 h2
  cases hk:memI K t with
  | false=>rfl
  | true =>
    obtain ⟨y,hy,a1,a2⟩:=memI_iff.1 hk
    obtain ⟨j,hj,e⟩:=List.mem_iff_getElem.1 hy
    obtain ⟨hi,e2⟩:=List.getElem?_eq_some_iff.1 hx
    rcases Nat.lt_or_ge j i with hji|hji
    · have:y∈K.take i:=by
        rw [List.mem_iff_getElem]
        exact ⟨j,by simp; omega,by simpa using e⟩
      have:=h1 y this
      omega
    · rcases Nat.eq_or_lt_of_le hji with rfl|hlt
      · rw [e] at e2; subst e2; omega
      · have:=List.pairwise_iff_getElem.1 h.2 i j hi hj hlt
        rw [e2,e] at this
        have:=h.1 x (by rw [← e2]; exact List.getElem_mem hi)
        omega
end Go.Step
namespace Go.Step
def segT (rate len:Int):Int:=(len+8+rate-1) / rate
theorem segT_pos {rate len:Int} (hr:1≤rate) (hl:1≤len):1≤segT rate len:=by
  unfold segT
  exact (Int.le_ediv_iff_mul_le (by omega)).2 (by omega)
theorem segT_le {rate len:Int} (hr:1≤rate) (hl:1≤len):segT rate len≤len+8:=by
  unfold segT
  have h1:(len+8+rate-1) / rate<len+8+1:=by
    refine (Int.ediv_lt_iff_lt_mul (by omega)).2 ?_
    have h2:(len+8)*1≤(len+8)*rate:=Int.mul_le_mul_of_nonneg_left hr (by omega)
    have h3:(len+8+1)*rate=(len+8)*rate+rate:=by rw [Int.add_mul,Int.one_mul]
    have h4:(len+7)*1≤(len+7)*rate:=Int.mul_le_mul_of_nonneg_left hr (by omega)
    have h5:(len+8)*rate=(len+7)*rate+rate:=by
      rw [show len+8=(len+7)+1 from by omega,Int.add_mul,Int.one_mul]
    omega
  omega
theorem pcsAll_ne {M:Iv} (hn:NormI M) (h0:∀ x∈M,0≤x.1) (hm:M≠[]):pcsAll M≠[]:=fun e=>by
  cases M with
  | nil=>exact hm rfl
  | cons x M =>
    have:=(pcsAll_ok hn h0).2.1 x.1
    rw [e,memI_first (hn.1 x (by simp))] at this
    cases this
theorem pcsAll_len {M:Iv} {n:Int} (hM:InI n M) (hn:0≤n):((pcsAll M).length:Int)≤n:=by
  obtain ⟨p1,p2,p3,p4⟩:=pcsAll_ok hM.1 (fun x hx=>(hM.at x hx).1)
  have key:∀ {P:Iv} {lo:Int},P.Pairwise (fun x y=>x.2≤y.1)→(∀ x∈P,lo≤x.1∧x.1<x.2∧x.2≤n)→lo≤n→(P.length:Int)≤n-lo:=by
    intro P
    induction P with
    | nil=>intro lo _ _ h; simp; omega
    | cons x P ih =>
      intro lo hp hb hlo
      obtain ⟨a1,a2⟩:=List.pairwise_cons.1 hp
      have hx:=hb x (by simp)
      have:=ih (lo:=x.2) a2 (fun y hy=>⟨a1 y hy,(hb y (by simp [hy])).2⟩) (by omega)
      simp only [List.length_cons,Int.natCast_add];omega
  have:=key (lo:=0) p4 (fun x hx=>by
    obtain ⟨y,hy,g1,g2,g3,_⟩:=p1 x hx
    have:=hM.at y hy
    omega) hn
  omega
end Go.Step
namespace Go.Eng
variable {C:Cx} {R H:List PH} {L:Env} {dst:Option Tmp} {ty:TypeId} {pos:String} {aft:Array Edge} {g:Option (Nat × Bool)}
abbrev str (l:List UInt8):Value:=.string ⟨⟨l⟩⟩
theorem str_size (l:List UInt8):(⟨⟨l⟩⟩:ByteArray).size=l.length:=rfl
theorem str_extract (l:List UInt8) (i j:Nat):(⟨⟨l⟩⟩:ByteArray).extract i j=⟨⟨(l.drop i).take (j-i)⟩⟩:=by
  apply ByteArray.ext
  rw [ByteArray.data_extract]
  apply Array.ext'
  simp
theorem B0 {x:Operand} {t:TypeId} {l:List UInt8} (h:evalE L x=some (str l)) (ht:C.P.underlying t=some .string):Quiet C R H L ⟨dst,.call ⟨.builtin .len,#[x],#[t]⟩,ty,pos,aft,g⟩ (.int .i64 (l.length:Int)):=
  ⟨by intro c; simp,fun a w hx _=>by
    have e:=hx x (by simp [Op.operands,Call.operands]) _ h
    simp [execOp,resolve,e,invoke,builtin,Builtin.len_,run_underlying ht,goInt]
    rfl⟩
theorem FO {x y z:Operand} {t:TypeId} {l:List UInt8} {k k':IntKind} {i j:Nat} (h:evalE L x=some (str l)) (hy:evalE L y=some (.int k (i:Int))) (hz:evalE L z=some (.int k' (j:Int))) (ht:C.P.underlying t=some .string) (hij:i≤j) (hj:j≤l.length) :
    Quiet C R H L ⟨dst,.slice t x (some y) (some z) none,ty,pos,aft,g⟩ (str ((l.drop i).take (j-i))):=
  ⟨by intro c; simp,fun a w hx _=>by
    have e:=hx x (by simp [Op.operands]) _ h
    have e2:=hx y (by simp [Op.operands]) _ hy
    have e3:=hx z (by simp [Op.operands]) _ hz
    have hr:=run_slice_string (P:=C.P) w t ⟨⟨l⟩⟩ k k' (i:Int) (j:Int) ht (by omega) (by omega) (by rw [str_size]; omega)
    rw [str_extract] at hr
    simp [execOp,e,e2,e3,run_sliceAt_string w t _ _ _ _ ht,hr]⟩
theorem q_cutH {x z:Operand} {t:TypeId} {l:List UInt8} {k:IntKind} {j:Nat} (h:evalE L x=some (str l)) (hz:evalE L z=some (.int k (j:Int))) (ht:C.P.underlying t=some .string) (hj:j≤l.length) :
    Quiet C R H L ⟨dst,.slice t x none (some z) none,ty,pos,aft,g⟩ (str (l.take j)):=
  ⟨by intro c; simp,fun a w hx _=>by
    have e:=hx x (by simp [Op.operands]) _ h
    have e3:=hx z (by simp [Op.operands]) _ hz
    have hr:=run_slice_string_h (P:=C.P) w t ⟨⟨l⟩⟩ ht k (j:Int) (by omega) (by rw [str_size]; omega)
    rw [str_extract] at hr
    simp [execOp,e,e3,run_sliceAt_string w t _ _ _ _ ht,hr]⟩
theorem q_idxS {x y:Operand} {t:TypeId} {l:List UInt8} {k:IntKind} {i:Nat} {b:UInt8} (h:evalE L x=some (str l)) (hy:evalE L y=some (.int k (i:Int))) (ht:C.P.underlying t=some .string) (hb:l[i]?=some b) :
    Quiet C R H L ⟨dst,.index t x y,ty,pos,aft,g⟩ (.int .u8 (b.toNat:Int)):=
  ⟨by intro c; simp,fun a w hx _=>by
    have e:=hx x (by simp [Op.operands]) _ h
    have e2:=hx y (by simp [Op.operands]) _ hy
    obtain ⟨hi,hb⟩:=List.getElem?_eq_some_iff.1 hb
    have hr:=run_index_string (P:=C.P) w t ⟨⟨l⟩⟩ k (i:Int) ht
    rw [dif_pos ⟨by omega,by rw [str_size]; omega⟩] at hr
    have hb2:(⟨⟨l⟩⟩:ByteArray)[(i:Int).toNat]'(by rw [str_size]; omega)=b:=hb
    rw [hb2] at hr
    simp [execOp,e,e2,hr]⟩
theorem ER {x y:Operand} {t:TypeId} {l:List UInt8} {k:IntKind} {i:Nat} (h:evalE L x=some (str l)) (hy:evalE L y=some (.int k (i:Int))) (ht:C.P.underlying t=some .string) (hb:l[i]?=some 0) :
    Quiet C R H L ⟨dst,.index t x y,ty,pos,aft,g⟩ (.int .u8 0):=q_idxS h hy ht hb
theorem E8 {x y:Operand} {xT yT:TypeId} {l m:List UInt8} (h:evalE L x=some (str l)) (h2:evalE L y=some (str m)):Quiet C R H L ⟨dst,.binOp .eql xT x y yT,ty,pos,aft,g⟩ (.bool (l == m)):=
  ⟨by intro c; simp,fun a w hxx _=>by
    have e1:=hxx x (by simp [Op.operands]) _ h
    have e2:=hxx y (by simp [Op.operands]) _ h2
    simp [execOp,e1,e2,eqGuard,binOp,Op.stringOp]⟩
theorem q_neT {x y:Operand} {xT yT:TypeId} {l m:List UInt8} (h:evalE L x=some (str l)) (h2:evalE L y=some (str m)):Quiet C R H L ⟨dst,.binOp .neq xT x y yT,ty,pos,aft,g⟩ (.bool (!(l == m))):=
  ⟨by intro c; simp,fun a w hxx _=>by
    have e1:=hxx x (by simp [Op.operands]) _ h
    have e2:=hxx y (by simp [Op.operands]) _ h2
    simp [execOp,e1,e2,eqGuard,binOp,Op.stringOp]⟩
def rowS (l:List UInt8):List Value:=l.map fun b=>.int .u8 (b.toNat:Int)
theorem rowS_len (l:List UInt8):(rowS l).length=l.length:=by simp [rowS]
theorem ones_rowS (l:List UInt8):∀ u∈rowS l,u.oneCell'=true:=by
  intro u hu
  simp only [rowS,List.mem_map] at hu
  obtain ⟨b,_,rfl⟩:=hu
  rfl
theorem rowS_append (l m:List UInt8):rowS (l ++ m)=rowS l ++ rowS m:=by simp [rowS]
theorem rowS_take (l:List UInt8) (n:Nat):(rowS l).take n=rowS (l.take n):=by simp [rowS,List.map_take]
theorem rowS_drop (l:List UInt8) (n:Nat):(rowS l).drop n=rowS (l.drop n):=by simp [rowS,List.map_drop]
theorem F8 {x y:Operand} {t t2 e:TypeId} {b o dl dc:Nat} {l:List UInt8} {cur:Array Value} {H':List PH}
    (hx:evalE L x=some (.slice (some ⟨b,o,none⟩) dl dc)) (hy:evalE L y=some (str l)) (ht:elemP C.P t=some e) (hs:szP C.P e=some 1)
    (htk:Take (sng b (.cells cur e (0,0))) H H') (hfit:o+Nat.min l.length dl≤cur.size) :
    Loud C R H L ⟨dst,.call ⟨.builtin .copy,#[x,y],#[t,t2]⟩,ty,pos,aft,g⟩ (fun u H2=>u=.int .i64 ((Nat.min l.length dl:Nat):Int)∧H2=sng b (.cells (cur.toList.take o ++ rowS (l.take (Nat.min l.length dl)) ++ cur.toList.drop (o+Nat.min l.length dl)).toArray e (0,0))::H'):=by
  refine ⟨fun a w hxx hsat next Q hnx=>?_⟩
  obtain ⟨ti,hi,hsz⟩:∃ i,C.P.info? e=some i∧i.size=1:=by
    unfold szP at hs
    cases hi:C.P.info? e with
    | none=>simp [hi] at hs
    | some i=>simp only [hi,Option.some.injEq] at hs; exact ⟨i,rfl,hs⟩
  have htu:=und_elem ht
  have e1:=hxx x (by simp [Op.operands,Call.operands]) _ hx
  have e2:=hxx y (by simp [Op.operands,Call.operands]) _ hy
  have hg:w.heap[b]?=some (.cells cur e (0,0)):=hsat.own htk
  obtain ⟨n,hn⟩:∃ n,Nat.min l.length dl=n:=⟨_,rfl⟩
  have hnl:n≤l.length:=by rw [← hn]; exact Nat.min_le_left _ _
  have hf:(Builtin.firstCells ti.size n (str l)).run C.P w=.ok (rowS (l.take n)).toArray w:=by
    simp only [Builtin.firstCells];rw [str_extract]
    simp [rowS]
  rw [hn] at hfit hnx
  have hlen:(rowS (l.take n)).length=n:=by rw [rowS_len,List.length_take]; omega
  have hst:=run_storeCells_at C.P b o e (rowS (l.take n)) 0 cur w hg (by rw [hlen]; simpa using hfit) (ones_rowS _)
  rw [hlen] at hst
  have hr:(Builtin.copy_ #[t,t2] ty #[.slice (some ⟨b,o,none⟩) dl dc,str l]).run C.P w=.ok (.int .i64 (n:Int)) (w.setRow b (cur.toList.take o ++ rowS (l.take n) ++ cur.toList.drop (o+n)).toArray):=by
    have hlo:(⟨⟨l⟩⟩:ByteArray).size=l.length:=rfl
    simp only [Builtin.copy_]
    simp [run_underlying htu,Builtin.lenOf,sizeOf,typeInfo,hi,goInt,hlo]
    rw [hn,hf]
    simpa using congrArg (fun r=>r.andThen fun _ w'=>Result.ok (Value.int .i64 (n:Int)) w') hst
  generalize hnew:(cur.toList.take o ++ rowS (l.take n) ++ cur.toList.drop (o+n)).toArray=new at hr hnx
  have hexec:(execOp a.eval ⟨dst,.call ⟨.builtin .copy,#[x,y],#[t,t2]⟩,ty,pos,aft,g⟩).run C.P w=.ok (.value (.int .i64 (n:Int))) (w.setRow b new):=by
    simp [execOp,resolve,e1,e2,invoke,builtin,hr]
  refine wpIn_value (by intro c; simp) hexec (hnx _ _ _ ⟨rfl,rfl⟩ (hsat.turn htk ?_ (setRow_heap w b cur _ e _ hg) (fun k hk=>setRow_other w b k _ hk)))
  simp
theorem foldl_push (l:List UInt8):∀ r:ByteArray,(l.map fun b=>(b.toNat:Int)).foldl (fun r n=>r.push (UInt8.ofNat n.toNat)) r=⟨⟨r.data.toList ++ l⟩⟩:=by
  induction l with
  | nil=>intro r; simp
  | cons b l ih=>intro r; rw [List.map_cons,List.foldl_cons,ih]; simp [ByteArray.push]
theorem q_b2s {sT dT e:TypeId} {x:Operand} {b o c:Nat} {l:List UInt8} (hx:evalE L x=some (.slice (some ⟨b,o,none⟩) l.length c)) (hc:Cells C.N R H b o (rowS l)) (h1:C.P.underlying sT=some (.slice e)) (h2:C.P.underlying e=some (.int .u8)) (h3:C.P.underlying dT=some .string) :
    Quiet C R H L ⟨dst,.convert sT dT x,ty,pos,aft,g⟩ (str l):=
  ⟨by intro c; simp,fun a w hxx hsat=>by
    have e1:=hxx x (by simp [Op.operands]) _ hx
    have hl:=run_loadCells_list (P:=C.P) (w:=w) ⟨b,o,none⟩ (rowS l) (fun j v hv=>by rw [Addr.add_lit]; exact hc w hsat j v hv)
    rw [rowS_len] at hl
    have hrow:(rowS l).toArray=((l.map fun b=>(b.toNat:Int)).map (Value.int .u8)).toArray:=by simp [rowS]
    rw [hrow] at hl;simp only [execOp,e1]
    have hb:=run_bytesToString (P:=C.P) w ⟨b,o,none⟩ l.length c _ hl
    rw [foldl_push] at hb
    simp [run_convert_bytes_string w sT dT e _ l.length c h1 h2 h3,hb]⟩
end Go.Eng
namespace Go.Step
open Go.Eng
structure Sg where
  a:Nat
  b:Nat
  sr:Int
def cutD (d:List UInt8) (a b:Nat):List UInt8:=(d.drop a).take (b-a)
theorem cutD_len {d:List UInt8} {a b:Nat} (_h:a≤b) (hb:b≤d.length):(cutD d a b).length=b-a:=by
  unfold cutD; rw [List.length_take,List.length_drop]; omega
def encG (se:Int) (d:List UInt8) (x:Sg):List Value:=[int 1,int se,int x.sr,int (x.a:Int),int (d.length:Int),.bool (decide (1≤x.sr)),str (cutD d x.a x.b),.slice none 0 0]
theorem encG_len (se:Int) (d:List UInt8) (x:Sg):(encG se d x).length=8:=rfl
theorem encG_ones (se:Int) (d:List UInt8) (x:Sg):∀ v∈encG se d x,v.oneCell'=true:=by
  intro v hv
  simp only [encG,List.mem_cons,List.not_mem_nil,or_false] at hv
  rcases hv with rfl|rfl|rfl|rfl|rfl|rfl|rfl|rfl <;> rfl
def encO (se:Int) (d:List UInt8) (x:Int × Sg):List Value:=int x.1::encG se d x.2
theorem encO_len (se:Int) (d:List UInt8) (x:Int × Sg):(encO se d x).length=9:=rfl
theorem encO_ones (se:Int) (d:List UInt8) (x:Int × Sg):∀ v∈encO se d x,v.oneCell'=true:=by
  intro v hv
  rcases List.mem_cons.1 hv with rfl|hv
  · rfl
  · exact encG_ones se d x.2 v hv
def okG (n:Nat) (x:Sg):Prop:=x.a<x.b∧x.b≤n∧x.b-x.a≤16∧0≤x.sr∧x.sr≤1099511627776
def bat (sr:Int) (P:Iv):List Sg:=P.mapIdx fun i x=>⟨x.1.toNat,x.2.toNat,if i+1=P.length then sr else 0⟩
def sg0 (x:Int × Int):Sg:=⟨x.1.toNat,x.2.toNat,0⟩
theorem bat_len (sr:Int) (P:Iv):(bat sr P).length=P.length:=by simp [bat]
theorem bat_get (sr:Int) (P:Iv) (i:Nat):(bat sr P)[i]?=(P[i]?).map (fun x=>(⟨x.1.toNat,x.2.toNat,if i+1=P.length then sr else 0⟩:Sg)):=by
  simp [bat]
def timed (rate:Int):Int→List Sg→List (Int × Sg)
  | _,[]=>[]
  | t,x::G=>(t+segT rate (((x.b-x.a:Nat):Int)),x)::timed rate (t+segT rate (((x.b-x.a:Nat):Int))) G
def endG (rate:Int):Int→List Sg→Int
  | t,[]=>t
  | t,x::G=>endG rate (t+segT rate (((x.b-x.a:Nat):Int))) G
theorem timed_len (rate:Int):∀ (G:List Sg) (t:Int),(timed rate t G).length=G.length
  | [],_=>rfl
  | x::G,t=>by simp [timed,timed_len rate G]
theorem endG_append (rate:Int):∀ (G E:List Sg) (t:Int),endG rate t (G ++ E)=endG rate (endG rate t G) E
  | [],_,_=>rfl
  | x::G,E,t=>endG_append rate G E _
theorem timed_get (rate:Int):∀ (G:List Sg) (t:Int) (i:Nat) (x:Sg),G[i]?=some x→(timed rate t G)[i]?=some (endG rate t (G.take (i+1)),x)
  | [],_,_,_,h=>by simp at h
  | y::G,t,0,x,h=>by simp at h; subst h; simp [timed,endG]
  | y::G,t,i+1,x,h=>by
    have:=timed_get rate G (t+segT rate (((y.b-y.a:Nat):Int))) i x (by simpa using h)
    simpa [timed,endG] using this
theorem endG_succ (rate:Int) {G:List Sg} {t:Int} {i:Nat} {x:Sg} (h:G[i]?=some x):endG rate t (G.take (i+1))=endG rate t (G.take i)+segT rate (((x.b-x.a:Nat):Int)):=by
  rw [List.take_add_one,h,endG_append]; rfl
theorem endG_le {rate:Int} {n:Nat} (hr:1≤rate):∀ {G:List Sg} {t:Int},(∀ x∈G,okG n x)→t+G.length≤endG rate t G∧endG rate t G≤t+24*G.length
  | [],t,_=>by simp [endG]
  | x::G,t,h=>by
    obtain ⟨h1,h2,h3,_⟩:=h x (by simp)
    have g1:=segT_pos hr (len:=((x.b-x.a:Nat):Int)) (by omega)
    have g2:=segT_le hr (len:=((x.b-x.a:Nat):Int)) (by omega)
    have:=endG_le hr (G:=G) (t:=t+segT rate (((x.b-x.a:Nat):Int))) (fun y hy=>h y (by simp [hy]))
    simp only [endG,List.length_cons,Int.natCast_add];omega
theorem bat_ok {M:Iv} {n:Nat} (hM:InI n M) {sr:Int} (h0:0≤sr) (h1:sr≤1099511627776):∀ x∈bat sr (pcsAll M),okG n x:=by
  intro x hx
  obtain ⟨i,hi⟩:=List.mem_iff_getElem?.1 hx
  rw [bat_get] at hi
  obtain ⟨y,hy,rfl⟩:=Option.map_eq_some_iff.1 hi
  obtain ⟨p1,_⟩:=pcsAll_ok hM.1 (fun x hx=>(hM.at x hx).1)
  obtain ⟨z,hz,g1,g2,g3,g4⟩:=p1 y (List.mem_of_getElem? hy)
  have:=hM.at z hz
  refine ⟨by dsimp only; omega,by dsimp only; omega,by dsimp only; omega,?_,?_⟩
  · dsimp only; split <;> omega
  · dsimp only; split <;> omega
def totR (d:List UInt8) (K:Iv):Int:=if K=[] then -1 else (d.length:Int)
def datR (d:List UInt8) (K:Iv):List UInt8:=if K=[] then [] else maskD d K
def encRp (se sr:Int) (n:Nat) (c:Value):List Value:=[int 2,int se,int sr,int 0,int (n:Int),.bool false,str [],c]
def encHg (se:Int) (d:List UInt8) (x:Sg × Bool):List Value:=[int 1,int se,int x.1.sr,int (x.1.a:Int),int (d.length:Int),.bool x.2,str (cutD d x.1.a x.1.b),.slice none 0 0]
theorem encHg_len (se:Int) (d:List UInt8) (x:Sg × Bool):(encHg se d x).length=8:=rfl
theorem bat_enc {se sr:Int} {d:List UInt8} {P:Iv} {x:Int × Int} (hs:1≤sr) (hx:P[P.length-1]?=some x) :
    ((P.map fun y=>(sg0 y,false)).set (P.length-1) (⟨x.1.toNat,x.2.toNat,sr⟩,true)).flatMap (encHg se d)=(bat sr P).flatMap (encG se d):=by
  have e:(P.map fun y=>(sg0 y,false)).set (P.length-1) ((⟨x.1.toNat,x.2.toNat,sr⟩:Sg),true)=(bat sr P).map (fun z=>(z,decide (1≤z.sr))):=by
    apply List.ext_getElem?
    intro i
    have hl:=(List.getElem?_eq_some_iff.1 hx).1
    rw [List.getElem?_set,List.getElem?_map (l:=bat sr P),bat_get,List.length_map]
    by_cases h:P.length-1=i
    · subst h
      rw [if_pos rfl,if_pos hl,hx]
      have e1:P.length-1+1=P.length:=by omega
      simp [e1,hs]
    · rw [if_neg h,List.getElem?_map]
      cases hi:P[i]? with
      | none=>rfl
      | some y =>
        have:=(List.getElem?_eq_some_iff.1 hi).1
        have e1:i+1≠P.length:=by omega
        simp [sg0,e1]
  rw [e,List.flatMap_map]
  rfl
theorem pcs_fuel:∀ (f:Nat) {a b:Int},0≤a→(b-a).toNat≤f→pcs f a b=pcs (b-a).toNat a b
  | 0,a,b,_,hf=>by
    have:(b-a).toNat=0:=by omega
    rw [this]
  | f+1,a,b,h0,hf=>by
    by_cases h:a<b
    · obtain ⟨n1,n2,n3⟩:=pcs_next h0 h
      obtain ⟨m,hm⟩:∃ m,(b-a).toNat=m+1:=⟨(b-a).toNat-1,by omega⟩
      rw [hm];simp only [pcs,if_pos h]
      rw [pcs_fuel f (by omega) (by omega),pcs_fuel m (by omega) (by omega)]
    · have e1:(b-a).toNat=0:=by omega
      rw [e1]
      simp [pcs,h]
theorem pcs_cons {a b:Int} (h0:0≤a) (h:a<b):pcs (b-a).toNat a b=(a,min b ((a / 16+1)*16))::pcs (b-min b ((a / 16+1)*16)).toNat (min b ((a / 16+1)*16)) b:=by
  obtain ⟨n1,n2,n3⟩:=pcs_next h0 h
  obtain ⟨m,hm⟩:∃ m,(b-a).toNat=m+1:=⟨(b-a).toNat-1,by omega⟩
  rw [hm];simp only [pcs,if_pos h]
  rw [pcs_fuel m (by omega) (by omega)]
theorem pcs_end {a b:Int} (h:b≤a):pcs (b-a).toNat a b=[]:=by
  have:(b-a).toNat=0:=by omega
  rw [this]; rfl
theorem pcsAll_at {M:Iv} {k:Nat} {x:Int × Int} (hx:M[k]?=some x):pcsAll M=pcsAll (M.take k) ++ (pcs (x.2-x.1).toNat x.1 x.2 ++ pcsAll (M.drop (k+1))):=by
  obtain ⟨hk,e⟩:=List.getElem?_eq_some_iff.1 hx
  have e2:M=M.take k ++ (x::M.drop (k+1)):=by
    conv=>lhs; rw [← List.take_append_drop k M,List.drop_eq_getElem_cons hk,e]
  conv=>lhs; rw [e2]
  simp [pcsAll]
theorem pcsAll_succ {M:Iv} {k:Nat} {x:Int × Int} (hx:M[k]?=some x):pcsAll (M.take (k+1))=pcsAll (M.take k) ++ pcs (x.2-x.1).toNat x.1 x.2:=by
  rw [List.take_add_one,hx]
  simp [pcsAll]
theorem pcs_step {M:Iv} {k j:Nat} {x:Int × Int} {f:Int} (hx:M[k]?=some x) (hd:(pcs (x.2-x.1).toNat x.1 x.2).drop j=pcs (x.2-f).toNat f x.2) (h0:0≤f) (h:f<x.2) :
    (pcsAll M)[(pcsAll (M.take k)).length+j]?=some (f,min x.2 ((f / 16+1)*16))∧(pcs (x.2-x.1).toNat x.1 x.2).drop (j+1)=pcs (x.2-min x.2 ((f / 16+1)*16)).toNat (min x.2 ((f / 16+1)*16)) x.2∧j+1≤(pcs (x.2-x.1).toNat x.1 x.2).length:=by
  rw [pcs_cons h0 h] at hd
  have hj:j<(pcs (x.2-x.1).toNat x.1 x.2).length:=by
    rcases Nat.lt_or_ge j (pcs (x.2-x.1).toNat x.1 x.2).length with h|h
    · exact h
    · rw [List.drop_of_length_le h] at hd; simp at hd
  have hg:(pcs (x.2-x.1).toNat x.1 x.2)[j]?=some (f,min x.2 ((f / 16+1)*16)):=by
    have e:((pcs (x.2-x.1).toNat x.1 x.2).drop j)[0]?=some (f,min x.2 ((f / 16+1)*16)):=by rw [hd]; rfl
    rw [List.getElem?_drop] at e
    simpa using e
  refine ⟨?_,?_,hj⟩
  · rw [pcsAll_at hx,List.getElem?_append_right (by omega),List.getElem?_append_left (by omega)]
    rw [show (pcsAll (M.take k)).length+j-(pcsAll (M.take k)).length=j from by omega]
    exact hg
  · rw [← List.drop_drop,hd]; rfl
end Go.Step
namespace Go.Eng
variable {C:Cx} {R H:List PH} {L:Env} {dst:Option Tmp} {ty:TypeId} {pos:String} {aft:Array Edge} {g:Option (Nat × Bool)}
theorem elems_bytes (l:List UInt8):elems (fun b:UInt8=>[Value.int .u8 (b.toNat:Int)]) l=(rowS l).toArray:=by
  unfold elems rowS
  congr 1
  induction l with
  | nil=>rfl
  | cons a l ih=>simp only [List.flatMap_cons,List.map_cons,List.cons_append,List.nil_append,ih]
theorem GY {x y:Operand} {t e:TypeId} {k1 k2:IntKind} {n:Nat} (hx:evalE L x=some (.int k1 (n:Int))) (hy:evalE L y=some (.int k2 (n:Int))) (ht:elemP C.P t=some e) (hs:szP C.P e=some 1) (hz:zeroP C.P e=some (.int .u8 0)) (hb:bytesP C.P e=some 1) (hn:n≤1000000) :
    Loud C R H L ⟨dst,.makeSlice t x y,ty,pos,aft,g⟩ (fun u H2=>∃ b,u=.slice (some ⟨b,0,none⟩) n n∧H2=sng b (.cells (rowS (List.replicate n 0)).toArray e (0,0))::H):=by
  have:=GR (C:=C) (R:=R) (H:=H) (L:=L) (dst:=dst) (ty:=ty) (pos:=pos) (aft:=aft) (g:=g) (enc:=fun b:UInt8=>[Value.int .u8 (b.toNat:Int)]) (0:UInt8) hx hy ht hs hz hb rfl rfl (by omega) (by omega)
  rwa [elems_bytes] at this
theorem cutP_one {b n i:Nat} (h:i<n):cutP (some ⟨b,0,none⟩) n i 1=some ⟨b,i,none⟩:=by
  unfold cutP
  rw [if_neg (by omega)]
  simp [Addr.add_lit]
end Go.Eng
namespace Go.Step
open Go.Eng
theorem cut_cut {d:List UInt8} {a b f t:Nat} (h1:a≤f) (h2:f≤t) (h3:t≤b):((cutD d a b).drop (f-a)).take ((t-a)-(f-a))=(d.drop f).take (t-f):=by
  unfold cutD
  apply List.ext_getElem?
  intro i
  simp only [List.getElem?_take,List.getElem?_drop]
  by_cases h:i<t-f
  · rw [if_pos (by omega),if_pos (by omega),if_pos h]
    congr 1
    omega
  · rw [if_neg (by omega),if_neg h]
theorem datR_le (d:List UInt8) (K:Iv):(datR d K).length=0∧K=[]∨(datR d K).length=d.length∧K≠[]:=by
  unfold datR
  by_cases h:K=[]
  · rw [if_pos h]; exact .inl ⟨rfl,h⟩
  · rw [if_neg h]; exact .inr ⟨maskD_len d K,h⟩
theorem copy_dat (d:List UInt8) (K:Iv) :
    (rowS (List.replicate d.length 0)).take 0 ++ rowS ((datR d K).take (Nat.min (datR d K).length d.length)) ++ (rowS (List.replicate d.length 0)).drop (0+Nat.min (datR d K).length d.length)=rowS (maskD d K):=by
  by_cases h:K=[]
  · subst h
    have e:datR d []=[]:=rfl
    rw [e,maskD_nil]
    simp [rowS]
  · have e:datR d K=maskD d K:=if_neg h
    rw [e,maskD_len]
    have hm:Nat.min d.length d.length=d.length:=Nat.min_self _
    have ht:(maskD d K).take d.length=maskD d K:=List.take_of_length_le (by rw [maskD_len]; exact Nat.le_refl _)
    rw [hm,ht,List.drop_of_length_le (by rw [rowS_len]; simp)]
    simp
theorem copy_piece {d:List UInt8} {K:Iv} {a b:Nat} (hab:a<b) (hb:b≤d.length) :
    (rowS (maskD d K)).take a ++ rowS ((cutD d a b).take (Nat.min (cutD d a b).length (d.length-a))) ++ (rowS (maskD d K)).drop (a+Nat.min (cutD d a b).length (d.length-a))=rowS (maskD d (unionI K [((a:Int),(b:Int))]))∨¬ NormI K:=by
  by_cases hK:NormI K
  rotate_left
  · exact .inr hK
  refine .inl ?_
  have hl:=cutD_len (Nat.le_of_lt hab) hb
  have hm:Nat.min (cutD d a b).length (d.length-a)=b-a:=by rw [hl]; exact Nat.min_eq_left (by omega)
  have ht:(cutD d a b).take (b-a)=cutD d a b:=List.take_of_length_le (by rw [hl]; exact Nat.le_refl _)
  rw [hm,ht,rowS_take,rowS_drop,← rowS_append,← rowS_append]
  congr 1
  rw [show a+(b-a)=b from by omega]
  have h1:NormI [((a:Int),(b:Int))]:=⟨by simp; omega,List.pairwise_singleton _ _⟩
  refine maskD_put (Nat.le_of_lt hab) hb (fun t=>?_)
  obtain ⟨_,k2,_⟩:=combI_ok (f:=fun x y=>x || y) rfl hK h1
  show memI (combI _ _ _) t=_
  rw [k2,mem_one]
theorem unionI_in {n:Int} {A K:Iv} (hA:InI n A) (hK:InI n K):InI n (unionI A K)∧∀ t,memI (unionI A K) t=(memI A t || memI K t):=by
  obtain ⟨k1,k2,_⟩:=combI_ok (f:=fun x y=>x || y) rfl hA.1 hK.1
  refine ⟨⟨k1,fun t ht=>?_⟩,k2⟩
  have:memI (unionI A K) t=(memI A t || memI K t):=k2 t
  rw [this,Bool.or_eq_true] at ht;exact ht.elim (hA.2 t) (hK.2 t)
end Go.Step
namespace Go.Step
theorem chkCt_rg {c:Ct} (h:chkCt c=0):(1≤c.r∧c.r≤1000)∧(1≤c.g∧c.g≤1048576)∧c.e≤1099511627776-2*c.g:=by
  unfold chkCt at h
  split at h
  · omega
  · rename_i hk
    have hk:=Decidable.not_not.1 hk
    obtain ⟨_,_,h1,h2,_⟩:=hk
    split at h
    · omega
    · split at h
      · omega
      · exact ⟨h1,h2,by omega⟩
theorem chkCt_gg {c:Ct} (h:chkCt c=0):0≤c.g∧c.g≤1048576:=by
  have:=chkCt_rg h
  omega
def stE (c:Ct) (d:List UInt8) (t0 e:Int):Int:=
  if chkCt c≠0 then 1 else if d=[] then 20 else if ¬ (c.s≤t0∧t0≤e∧e≤c.e) then 2 else if e<endG c.r t0 (bat 1 (pcsAll (missI d.length []))) then 16 else 0
theorem missI_ne {n:Int} {K:Iv} (h:InI n K) (hn:0<n) (hw:K≠[(0,n)]):missI n K≠[]:=fun e=>hw (missI_none h hn e)
theorem bat_last {sr:Int} {P:Iv} (hP:P≠[]):∃ x,(bat sr P)[(bat sr P).length-1]?=some x∧x.sr=sr:=by
  have hl:0<P.length:=List.length_pos_iff.2 hP
  refine ⟨⟨(P[P.length-1]'(by omega)).1.toNat,(P[P.length-1]'(by omega)).2.toNat,sr⟩,?_,rfl⟩
  rw [bat_len,bat_get,List.getElem?_eq_getElem (by omega)]
  simp; omega
end Go.Step
namespace Go.Step
open Go.Eng
theorem slAt_rd {ρ:PH} {s n c b o:Nat} {xs:List Value} (h:SlAt ρ s (.slice (some ⟨b,o,none⟩) n c) n xs) (hn:0<n):RdN ρ b o xs:=by
  obtain ⟨_,⟨h0,_⟩|⟨b',o',c',e,h2⟩⟩:=h
  · omega
  · simp only [Value.slice.injEq,Option.some.injEq,Addr.mk.injEq,and_true] at e
    obtain ⟨⟨rfl,rfl⟩,_⟩:=e
    exact h2
end Go.Step
namespace Go.Step
open Go.Eng
inductive Msg where
  | dat (x:Sg)
  | rep (sr:Int) (K:Iv)
structure Frm where
  arr:Int
  num:Int
  g:Msg
structure Ch where
  fr:List Frm
  sent:Int
  lost:Int
def insF (f:Frm):List Frm→List Frm
  | []=>[f]
  | x::l=>if f.arr<x.arr then f::x::l else x::insF f l
def insFs (t num:Int) (g:Msg):List Int→List Frm→List Frm
  | [],l=>l
  | d::ds,l=>insFs t num g ds (insF ⟨t+d,num,g⟩ l)
def chSend (rng:Int) (c:Ch) (t:Int) (g:Msg) (ds:List Int):Option Ch:=
  if 10000<c.fr.length+ds.length then none else some ⟨insFs t c.sent g ds c.fr,c.sent+1,if rng∈ds then c.lost else c.lost+1⟩
def fateM (n rng:Int):List Int:=
  let k:=n % 8
  let m:=(n / 8) % rng
  if k<4 then [rng] else if k<6 then [rng,rng+1+m] else if k<7 then [rng+1+m] else []
structure Par where
  c:Ct
  d:List UInt8
  e:Int
  picks:List Int
  limit:Int
  dark:Iv
structure Sd where
  busy:Int
  sr:Int
  due:Int
  st:Int
  K:Iv
def sendM (P:Par) (s:Sd) (t:Int) (sr:Int) (G:List Sg):Sd × List (Int × Sg):=
  if P.e<endG P.c.r t G then ({ s with due:=0,st:=3 },[]) else (⟨endG P.c.r t G,sr,endG P.c.r t G+2*P.c.g+1,1,s.K⟩,timed P.c.r t G)
def batM (P:Par) (s:Sd):List Sg:=bat (s.sr+1) (pcsAll (missI P.d.length s.K))
def hearM (P:Par) (s:Sd) (t sr:Int) (C:Iv):Sd × List (Int × Sg):=
  if s.st≠1∨sr≠s.sr then (s,[]) else
  if unionI s.K C=[(0,(P.d.length:Int))] then ({ s with due:=0,st:=2,K:=unionI s.K C },[]) else
  sendM P { s with K:=unionI s.K C } t (s.sr+1) (batM P { s with K:=unionI s.K C })
def waitM (P:Par) (s:Sd) (t:Int):Sd × List (Int × Sg):=sendM P s t (s.sr+1) ((batM P s).drop ((batM P s).length-1))
structure Ss where
  dat:Ch
  rep:Ch
  ent:Int
  dis:Int
  out0:List (Int × Sg)
  out1:List (Int × Int × Iv)
  now:Int
  snd:Sd
  K:Iv
  wait:List (Int × Sg)
  rcvd:Bool
  arr:Int
  kn:Bool
  knAt:Int
def delM (P:Par) (s:Ss) (t:Int):List Int × Int:=
  if memI P.dark t then ([],s.dis) else
  if P.picks=[] then ([P.c.g],s.dis) else
  let f:=fateM (P.picks.getD (s.ent.toNat % P.picks.length) 0) P.c.g
  if f.head?=some P.c.g then (f,s.dis) else
  if 0≤P.limit∧P.limit≤s.dis then ([P.c.g],s.dis) else (f,s.dis+1)
def enter0 (P:Par) (s:Ss) (t:Int) (x:Sg):Ss:=
  if 10000≤s.ent then s else
  match chSend P.c.g s.dat t (.dat x) (delM P s t).1 with
  | none=>{ s with dis:=(delM P s t).2 }
  | some c=>{ s with dat:=c,dis:=(delM P s t).2,ent:=s.ent+1,out0:=s.out0 ++ [(t,x)] }
def enter1 (P:Par) (s:Ss) (t:Int) (sr:Int) (K:Iv):Ss:=
  if 10000≤s.ent then s else
  match chSend P.c.g s.rep t (.rep sr K) (delM P s t).1 with
  | none=>{ s with dis:=(delM P s t).2 }
  | some c=>{ s with rep:=c,dis:=(delM P s t).2,ent:=s.ent+1,out1:=s.out1 ++ [(t,sr,K)] }
def trM (P:Par):List (Int × Sg)→Ss→Ss
  | [],s=>{ s with wait:=[] }
  | (t,x)::w,s=>if t=s.now then trM P w (enter0 P s s.now x) else { s with wait:=(t,x)::w }
def dlv1 (P:Par) (s:Ss) (x:Sg):Ss:=
  let K:=unionI s.K [((x.a:Int),(x.b:Int))]
  let s1:=if 1≤x.sr then enter1 P { s with K:=K } s.now x.sr K else { s with K:=K }
  if s1.rcvd=false∧K=[(0,(P.d.length:Int))] then { s1 with rcvd:=true,arr:=s1.now } else s1
def dlvM (P:Par):Nat→Ss→Ss
  | 0,s=>s
  | n+1,s=>match s.dat.fr with
    | ⟨t,_,.dat x⟩::l=>if t=s.now then dlvM P n (dlv1 P { s with dat:={ s.dat with fr:=l } } x) else s
    | _=>s
def lsn1 (P:Par) (s:Ss) (sr:Int) (C:Iv):Ss:=
  if s.now<s.snd.busy then s else
  let r:=hearM P s.snd s.now sr C
  let s1:={ s with snd:=r.1,wait:=s.wait ++ r.2 }
  if s1.kn=false∧r.1.st=2 then { s1 with kn:=true,knAt:=s1.now } else s1
def lsnM (P:Par):Nat→Ss→Ss
  | 0,s=>s
  | n+1,s=>match s.rep.fr with
    | ⟨t,_,.rep sr C⟩::l=>if t=s.now then lsnM P n (lsn1 P { s with rep:={ s.rep with fr:=l } } sr C) else s
    | _=>s
def waitsM (s:Ss):Bool:=decide (s.snd.st=1) && decide (s.ent<10000)
def expM (P:Par) (s:Ss):Ss:=
  if waitsM s=false∨s.snd.due≠s.now then s else
  let r:=waitM P s.snd s.now
  { s with snd:=r.1,wait:=s.wait ++ r.2 }
def minO:Option Int→Option Int→Option Int
  | none,b=>b
  | some a,none=>some a
  | some a,some b=>if b<a then some b else some a
def clrM (s:Ss):Ss:=if 10000≤s.ent then { s with wait:=[] } else s
def nextM (s:Ss):Option Int:=
  minO (minO (minO (s.wait.head?.map (·.1)) (s.dat.fr.head?.map (·.arr))) (s.rep.fr.head?.map (·.arr))) (if waitsM s then some s.snd.due else none)
def roundM (P:Par) (s:Ss) (t:Int):Ss:=
  let s1:=trM P s.wait { s with now:=t }
  let s2:=dlvM P s1.dat.fr.length s1
  let s3:=lsnM P s2.rep.fr.length s2
  expM P s3
inductive Runs (P:Par):Ss→Ss→Prop
  | stop {s:Ss}:nextM (clrM s)=none→Runs P s (clrM s)
  | step {s s':Ss} {t:Int}:nextM (clrM s)=some t→Runs P (roundM P (clrM s) t) s'→Runs P s s'
def beginM (P:Par) (t0:Int):Ss:=
  let G:=bat 1 (pcsAll (missI P.d.length []))
  ⟨⟨[],0,0⟩,⟨[],0,0⟩,0,0,[],[],0,⟨endG P.c.r t0 G,1,endG P.c.r t0 G+2*P.c.g+1,1,[]⟩,[],timed P.c.r t0 G,false,0,false,0⟩
end Go.Step
