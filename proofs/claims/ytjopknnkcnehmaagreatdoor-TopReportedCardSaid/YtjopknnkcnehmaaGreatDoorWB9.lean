/- Texts of this proof, one after the other; no conditions. -/
import Derived.Laws.IdiomStrings
import Derived.Deep.AppendSrc
import Derived.Test.YtjopknnkcnehmaaGreatDoorWB2
import Derived.Test.YtjopknnkcnehmaaGreatDoorWB3
import Derived.Test.YtjopknnkcnehmaaGreatDoorWB4
import Derived.Test.YtjopknnkcnehmaaGreatDoorWB8
set_option linter.all false
/- Records and bundles as bytes: plain facts. No conditions. -/
namespace Go.Step
open Go.Eng
def vAll (l:List Nat):List UInt8:=l.flatMap vInt
theorem vAll_cons (n:Nat) (l:List Nat):vAll (n::l)=vInt n ++ vAll l:=rfl
theorem vAll_nil:vAll []=[]:=rfl
theorem vAll_take {l:List Nat} {i n:Nat} (h:l[i]?=some n):vAll (l.take (i+1))=vAll (l.take i) ++ vInt n:=by
  unfold vAll;rw [List.take_add_one,h,List.flatMap_append]
  simp
theorem vAll_drop {l:List Nat} {i n:Nat} (h:l[i]?=some n):vAll (l.drop i)=vInt n ++ vAll (l.drop (i+1)):=by
  have hl:=(List.getElem?_eq_some_iff.1 h).1
  have e:=(List.getElem?_eq_some_iff.1 h).2
  rw [List.drop_eq_getElem_cons hl,e,vAll_cons]
theorem vAll_len:∀ l:List Nat,(vAll l).length≤10*l.length
  | []=>by simp [vAll_nil]
  | n::l=>by
    have h1:=vInt_len n
    have h2:=vAll_len l
    rw [vAll_cons,List.length_append,List.length_cons];omega
def magR:List UInt8:=[65,82,49]
def magB:List UInt8:=[77,66,49]
structure Rep where
  (k a c q o t n m r:Nat)
def Rep.nums (x:Rep):List Nat:=[x.k,x.a,x.c,x.q,x.o,x.t,x.n,x.m,x.r]
def Rep.ok (x:Rep):Prop:=1≤x.k∧x.k≤6∧x.a≤15∧x.c≤1099511627776∧x.q≤1099511627776∧(x.o=0∧x.t=0∨1≤x.t∧x.t≤4096∧x.o<x.t)∧x.n≤15∧x.m≤1099511627776∧x.r≤7∧((x.k=4∨x.k=6)↔x.r≠0)
def Rep.text (x:Rep):List UInt8:=vText magR ++ vAll x.nums
theorem Rep.text_len (x:Rep):(x.text).length≤103:=by
  have h1:=vText_len magR
  have h2:=vInt_len magR.length
  have h3:=vAll_len x.nums
  have h4:x.nums.length=9:=rfl
  have h5:magR.length=3:=rfl
  unfold Rep.text;rw [List.length_append];omega
structure Bn where
  (a c o t n l:Nat) (d:List UInt8)
def Bn.nums (x:Bn):List Nat:=[x.a,x.c,7,x.o,x.t,1,x.n,x.l,1,4]
def Bn.ok (x:Bn):Prop:=x.a≤15∧x.c+x.l≤1099511627776∧1≤x.l∧x.n≤15∧(x.o=0∧x.t=0∧x.d.length≤4096∨1≤x.t∧x.t≤4096∧x.o<x.t∧1≤x.d.length∧x.o+x.d.length≤x.t)
def Bn.text (x:Bn):List UInt8:=vText magB ++ (vAll x.nums ++ (vInt 0 ++ vText x.d))
theorem Bn.d_len {x:Bn} (h:x.ok):x.d.length≤4096:=by
  obtain ⟨_,_,_,_,h⟩:=h
  omega
theorem Bn.text_len {x:Bn} (h:x.ok):(x.text).length≤4243:=by
  have h0:=Bn.d_len h
  have h1:=vText_len magB
  have h2:=vInt_len magB.length
  have h3:=vAll_len x.nums
  have h4:x.nums.length=10:=rfl
  have h5:magB.length=3:=rfl
  have h6:=vInt_len 0
  have h7:=vText_len x.d
  have h8:=vInt_len x.d.length
  unfold Bn.text;rw [List.length_append,List.length_append,List.length_append];omega
def wrB (s:List UInt8) (o:Nat) (p:List UInt8):List UInt8:=s.take o ++ p ++ s.drop (o+p.length)
theorem wrB_len {s p:List UInt8} {o:Nat} (h:o+p.length≤s.length):(wrB s o p).length=s.length:=by
  unfold wrB
  simp
  omega
theorem wrB_two {D:List UInt8} {k:Nat} (hk:k≤D.length):wrB (List.replicate D.length 0) k (D.drop k)=List.replicate k 0 ++ D.drop k:=by
  unfold wrB
  have h1:(List.replicate D.length (0:UInt8)).take k=List.replicate k 0:=by rw [List.take_replicate,Nat.min_eq_left hk]
  have h2:(List.replicate D.length (0:UInt8)).drop (k+(D.drop k).length)=[]:=by
    rw [List.drop_replicate,List.length_drop]
    have:D.length-(k+(D.length-k))=0:=by omega
    rw [this]
    rfl
  rw [h1,h2,List.append_nil]
theorem wrB_one {D:List UInt8} {k:Nat} (hk:k≤D.length):wrB (List.replicate k 0 ++ D.drop k) 0 (D.take k)=D:=by
  unfold wrB
  have h2:(List.replicate k (0:UInt8) ++ D.drop k).drop (0+(D.take k).length)=D.drop k:=by
    have e:0+(D.take k).length=(List.replicate k (0:UInt8)).length:=by
      rw [List.length_take,List.length_replicate];omega
    rw [e,List.drop_left]
  rw [h2,List.take_zero,List.nil_append,List.take_append_drop]
theorem one_norm {a b:Int} (h:a<b):NormI [(a,b)]:=NormI.nil.cons h (fun _ h=>absurd h List.not_mem_nil)
theorem one_chk {a b:Nat} (h:a<b) (hb:b≤1000000):chkI [((a:Int),(b:Int))]=0:=
  chkI_of (by rw [List.length_singleton]; omega) (one_norm (by omega)) (fun x hx=>by
    rw [List.mem_singleton] at hx;subst hx
    exact ⟨by dsimp only; omega,by dsimp only; omega,by dsimp only; omega⟩)
theorem one_mem (a b t:Int):memI [(a,b)] t=(decide (a≤t) && decide (t<b)):=by simp [memI,inSp]
theorem cap_apart {k n:Nat} (h1:0<k) (h2:k<n):combI (fun x y=>x && y) [((k:Int),(n:Int))] [(((0:Nat):Int),(k:Int))]=[]:=by
  obtain ⟨k1,k2,_⟩:=combI_ok (f:=fun x y=>x && y) rfl (one_norm (a:=(k:Int)) (b:=(n:Int)) (by omega)) (one_norm (a:=((0:Nat):Int)) (b:=(k:Int)) (by omega))
  refine normI_ext k1 NormI.nil (fun t=>?_)
  rw [k2,one_mem,one_mem]
  show _=false
  rw [Bool.eq_false_iff];simp only [ne_eq,Bool.and_eq_true,decide_eq_true_eq];omega
theorem cup_apart {k n:Nat} (h1:0<k) (h2:k<n):combI (fun x y=>x || y) [((k:Int),(n:Int))] [(((0:Nat):Int),(k:Int))]=[(((0:Nat):Int),(n:Int))]:=by
  obtain ⟨k1,k2,_⟩:=combI_ok (f:=fun x y=>x || y) rfl (one_norm (a:=(k:Int)) (b:=(n:Int)) (by omega)) (one_norm (a:=((0:Nat):Int)) (b:=(k:Int)) (by omega))
  refine normI_ext k1 (one_norm (by omega)) (fun t=>?_)
  rw [k2,one_mem,one_mem,one_mem,Bool.eq_iff_iff];simp only [Bool.or_eq_true,Bool.and_eq_true,decide_eq_true_eq];omega
def rpIdI (a c q o t:Int):Prop:=0≤a∧a≤15∧0≤c∧c≤1099511627776∧0≤q∧q≤1099511627776∧(o=0∧t=0∨1≤t∧t≤4096∧0≤o∧o<t)
def rpI (k a c q o t n m r:Int):Prop:=1≤k∧k≤6∧rpIdI a c q o t∧0≤n∧n≤15∧0≤m∧m≤1099511627776∧0≤r∧r≤7∧(r≠0↔k=4∨k=6)
theorem rpI_rep {k a c q o t n m r:Int} (h:rpI k a c q o t n m r):∃ x:Rep,x.ok∧k=x.k∧a=x.a∧c=x.c∧q=x.q∧o=x.o∧t=x.t∧n=x.n∧m=x.m∧r=x.r:=by
  unfold rpI rpIdI at h;refine ⟨⟨k.toNat,a.toNat,c.toNat,q.toNat,o.toNat,t.toNat,n.toNat,m.toNat,r.toNat⟩,?_,?_⟩
  · unfold Rep.ok
    dsimp only
    omega
  · dsimp only
    omega
theorem Rep.num_le {x:Rep} (h:x.ok) {j n:Nat} (hn:x.nums[j]?=some n):n≤1099511627776:=by
  have hm:=List.mem_of_getElem? hn
  unfold Rep.ok at h;unfold Rep.nums at hm;simp only [List.mem_cons,List.not_mem_nil,or_false] at hm;omega
theorem Rep.num_at (x:Rep) {j:Nat} (h:j<9):∃ n,x.nums[j]?=some n:=⟨_,List.getElem?_eq_getElem (l:=x.nums) h⟩
def Rep.pre (x:Rep) (j:Nat):List UInt8:=vText magR ++ vAll (x.nums.take j)
theorem Rep.pre_zero (x:Rep):vText magR=x.pre 0:=(List.append_nil _).symm
theorem Rep.pre_nine (x:Rep):x.pre 9=x.text:=rfl
theorem Rep.pre_next (x:Rep) {j n:Nat} (h:x.nums[j]?=some n):x.pre j ++ vInt n=x.pre (j+1):=by
  unfold Rep.pre;rw [vAll_take h,List.append_assoc]
theorem Rep.pre_len (x:Rep) (j:Nat):(x.pre j).length≤103:=by
  have h1:=vText_len magR
  have h2:=vInt_len magR.length
  have h3:=vAll_len (x.nums.take j)
  have h4:(x.nums.take j).length≤9:=by rw [List.length_take]; exact Nat.min_le_right _ _
  have h5:magR.length=3:=rfl
  unfold Rep.pre;rw [List.length_append];omega
theorem Bn.num_le {x:Bn} (h:x.ok) {j n:Nat} (hn:x.nums[j]?=some n):n≤1099511627776:=by
  have hm:=List.mem_of_getElem? hn
  unfold Bn.ok at h;unfold Bn.nums at hm;simp only [List.mem_cons,List.not_mem_nil,or_false] at hm;omega
theorem Bn.num_at (x:Bn) {j:Nat} (h:j<10):∃ n,x.nums[j]?=some n:=⟨_,List.getElem?_eq_getElem (l:=x.nums) h⟩
def Bn.pre (x:Bn) (j:Nat):List UInt8:=vText magB ++ vAll (x.nums.take j)
theorem Bn.pre_zero (x:Bn):vText magB=x.pre 0:=(List.append_nil _).symm
theorem Bn.pre_ten (x:Bn):x.pre 10 ++ vInt 0 ++ vText x.d=x.text:=by
  show vText magB ++ vAll x.nums ++ vInt 0 ++ vText x.d=x.text
  unfold Bn.text;simp only [List.append_assoc]
theorem Bn.pre_next (x:Bn) {j n:Nat} (h:x.nums[j]?=some n):x.pre j ++ vInt n=x.pre (j+1):=by
  unfold Bn.pre;rw [vAll_take h,List.append_assoc]
theorem Bn.pre_len (x:Bn) (j:Nat):(x.pre j).length≤113:=by
  have h1:=vText_len magB
  have h2:=vInt_len magB.length
  have h3:=vAll_len (x.nums.take j)
  have h4:(x.nums.take j).length≤10:=by rw [List.length_take]; exact Nat.min_le_right _ _
  have h5:magB.length=3:=rfl
  unfold Bn.pre;rw [List.length_append];omega
theorem vInt_pos (n:Nat):1≤(vInt n).length:=by
  have:=vEnc_len (2*n)
  unfold vInt;omega
theorem Bn.text_split (x:Bn) (j:Nat):x.text=x.pre j ++ (vAll (x.nums.drop j) ++ (vInt 0 ++ vText x.d)):=by
  have e:vAll x.nums=vAll (x.nums.take j) ++ vAll (x.nums.drop j):=by
    unfold vAll;rw [← List.flatMap_append,List.take_append_drop]
  unfold Bn.text Bn.pre;rw [e];simp only [List.append_assoc]
theorem Bn.drop_at (x:Bn) {j n:Nat} (h:x.nums[j]?=some n):x.text.drop (x.pre j).length=vInt n ++ (vAll (x.nums.drop (j+1)) ++ (vInt 0 ++ vText x.d))∧(x.pre j).length+(vInt n).length=(x.pre (j+1)).length:=by
  refine ⟨?_,?_⟩
  · rw [x.text_split j,List.drop_left,vAll_drop h,List.append_assoc]
  · rw [← x.pre_next h,List.length_append]
theorem Bn.drop_mag (x:Bn):x.text.drop 0=vText magB ++ (vAll x.nums ++ (vInt 0 ++ vText x.d))∧0+(vText magB).length=(x.pre 0).length:=by
  refine ⟨rfl,?_⟩;rw [← x.pre_zero,Nat.zero_add]
theorem Bn.drop_ten (x:Bn):x.text.drop (x.pre 10).length=vInt 0 ++ vText x.d:=by
  rw [x.text_split 10,List.drop_left]
  rfl
theorem Bn.drop_d (x:Bn):x.text.drop ((x.pre 10).length+(vInt 0).length)=vText x.d ++ []:=by
  rw [← List.drop_drop,x.drop_ten,List.drop_left,List.append_nil]
theorem Bn.drop_end (x:Bn):x.text.drop ((x.pre 10).length+(vInt 0).length+(vText x.d).length)=[]:=by
  rw [← List.drop_drop,x.drop_d,List.drop_left]
theorem Bn.len_end (x:Bn):(x.pre 10).length+(vInt 0).length+(vText x.d).length=x.text.length:=by
  rw [← x.pre_ten,List.length_append,List.length_append]
theorem two_zero {D:List UInt8} {k:Nat} (hk:k≤D.length):(List.replicate k (0:UInt8) ++ D.drop k).length=D.length∧∀ i,i<k→(List.replicate k (0:UInt8) ++ D.drop k)[i]?=some 0:=by
  refine ⟨?_,fun i hi=>?_⟩
  · rw [List.length_append,List.length_replicate,List.length_drop]
    omega
  · rw [List.getElem?_append_left (by rw [List.length_replicate]; exact hi),List.getElem?_replicate_of_lt hi]
theorem Bn.sec_ok {z:Bn} (h:z.ok) (h0:z.o=0∧z.t=0) {k:Nat} (hk:0<k∧k<z.d.length):Bn.ok ⟨z.a,z.c,k,z.d.length,z.n,z.l,z.d.drop k⟩:=by
  unfold Bn.ok at h ⊢
  dsimp only
  rw [List.length_drop];omega
theorem Bn.fst_ok {z:Bn} (h:z.ok) (h0:z.o=0∧z.t=0) {k:Nat} (hk:0<k∧k<z.d.length):Bn.ok ⟨z.a,z.c,0,z.d.length,z.n,z.l,z.d.take k⟩:=by
  unfold Bn.ok at h ⊢
  dsimp only
  rw [List.length_take];omega
def allD (D1 D:List UInt8):Nat→List UInt8
  | 0=>D1
  | _+1=>D
def allF (k:Nat):Nat→Nat
  | 0=>k
  | _+1=>0
end Go.Step
namespace Go.Eng
variable {C:Cx} {R H:List PH} {L:Env} {dst:Option Tmp} {ty:TypeId} {pos:String} {aft:Array Edge} {g:Option (Nat × Bool)}
theorem CB {x y:Operand} {t e:TypeId} {b o n i s m:Nat} {k:IntKind} (h:evalE L x=some (.pointer (some ⟨b,o,none⟩))) (h2:evalE L y=some (.int k (i:Int))) (ht:C.P.underlying t=some (.array n e)) (hs:szP C.P e=some s) (hn:i<n) (hm:o+i*s=m) :
    Quiet C R H L ⟨dst,.indexAddr t x y,ty,pos,aft,g⟩ (.pointer (some ⟨b,m,none⟩)):=
  ⟨by intro c; simp,fun a w hx _=>by
    subst hm
    simp [execOp,hx x (by simp [Op.operands]) _ h,hx y (by simp [Op.operands]) _ h2,Instr.indexAt,Instr.sureAddr,asIntOf,run_underlying ht,hn,run_sizeOf hs,Addr.add_lit]⟩
def fillA (s:Nat):List Value→List (Nat × Value)→Option (List Value)
  | zs,[]=>some zs
  | zs,(i,v)::r=>if v.cells.size=s∧i*s+s≤zs.length then fillA s (zs.take (i*s) ++ (v.cells.toList ++ zs.drop (i*s+s))) r else none
theorem fillA_eq {s:Nat}:∀ {pvs:List (Nat × Value)} {zs out:List Value},fillA s zs pvs=some out→Instr.fill (fun i=>some (i*s,s)) zs.toArray pvs=some out.toArray
  | [],zs,out,h=>by simp [fillA] at h; subst h; rfl
  | (i,v)::r,zs,out,h=>by
    unfold fillA at h;unfold Instr.fill
    split at h
    · rename_i hc
      have ih:=fillA_eq h
      have hs:=splice_fold v.cells.toList 0 (i*s) zs.toArray (by simp; omega)
      simp only
      rw [if_neg (by simp; omega)]
      rw [← ih]
      congr 1
      apply Array.ext'
      simpa [← Array.toList_zipIdx,← hc.1] using hs
    · simp at h
theorem CZ {t e:TypeId} {n s:Nat} {ps:List (Nat × Operand)} {pvs:List (Nat × Value)} {zs out:List Value}
    (hu:C.P.underlying t=some (.array n e)) (hz:zeroP C.P t=some (.agg zs.toArray)) (hs:szP C.P e=some s) (hv:evalPs L ps=some pvs) (ho:fillA s zs pvs=some out) :
    Quiet C R H L ⟨dst,.build t ps.toArray,ty,pos,aft,g⟩ (.agg out.toArray):=
  ⟨by intro c; simp,fun a w hxx _=>by
    have h1:=evalPs_eq (a:=a) hv (fun x hx=>hxx x (by simp [Op.operands] at hx ⊢; exact hx))
    have h3:=fillA_eq ho
    simp only [execOp,Instr.build]
    simp [run_zeroValue hz,Value.cells,run_underlying hu,h1,run_sizeOf hs,h3]⟩
end Go.Eng
namespace Go.Proofs.YtjopknnkcnehmaaGreatDoor
open Go.Eng Go.Step
set_option maxRecDepth 100000
set_option maxHeartbeats 64000000
theorem rfId_spec (a c q o t:Int):Ans Tryz.prog (fv 13) [.agg #[int a,int c,int q,int o,int t]] [] (fun v=>v=.bool true∧rpIdI a c q o t∨v=.bool false∧¬ rpIdI a c q o t):=by
 refine spec_in (cap:=[]) Tryz.func13 rfl rfl Tryz.ntmps13 rfl envZ (fun N β=>?_)
 refine Aa ?_;refine A9 (BK rfl) rfl rfl rfl ?_;rintro _ _ ⟨b2,rfl,rfl⟩;refine AZ (ρ:=sng b2 (.cells #[int a,int c,int q,int o,int t] 23 (0,0))) takeZ ?_
 have bx23_3:=rdB b2 23 [int a,int c,int q,int o,int t]
 have c0:=rdC bx23_3 0
 have c1:=rdC bx23_3 1
 have c2:=rdC bx23_3 2
 have c3:=rdC bx23_3 3
 have c4:=rdC bx23_3 4
 repeat' (first
  | (refine AB ?_)
  | (refine AC ?_)
  | (refine AG ?_)
  | (refine AF ?_)
  | (refine AX ?_)
  | (refine AK ?_)
  | (refine CM ?_)
  | (refine DO ?_)
  | (refine AD ?_)
  | (refine AA ?_)
  | (refine AE ?_)
  | (refine AM ?_)
  | (refine A3 rfl ?_)
  | (refine AJ rfl ?_)
  | (refine AN rfl rfl rfl ?_)
  | (focus ((refine C5 rfl rfl (cmp_eq _ _) rfl rfl (fun h=>?_) (fun h=>?_))))
  | (focus ((refine C5 rfl rfl (cmp_lt _ _) rfl rfl (fun h=>?_) (fun h=>?_))))
  | (focus ((refine C5 rfl rfl (cmp_le _ _) rfl rfl (fun h=>?_) (fun h=>?_))))
  | fail)
 all_goals refine AP (res1 rfl rfl) rsubZ selZ ⟨rfl,?_⟩
 all_goals first|exact .inl ⟨by first|rfl|(exact congrArg Value.bool (decide_eq_true (by omega))),by unfold rpIdI; omega⟩|exact .inr ⟨by first|rfl|(exact congrArg Value.bool (decide_eq_false (by omega))),by unfold rpIdI; omega⟩
theorem rfCheck_spec (k a c q o t n m r:Int):Ans Tryz.prog (fv 4) [.agg #[int k,int a,int c,int q,int o,int t,int n,int m,int r]] [] (fun v=>v=int 0∧rpI k a c q o t n m r∨(∃ e:Int,v=int e∧e≠0)∧¬ rpI k a c q o t n m r):=by
 have hid:=rfId_spec a c q o t
 refine spec_in (cap:=[]) Tryz.func4 rfl rfl Tryz.ntmps4 rfl envZ (fun N β=>?_)
 refine Aa ?_;refine A9 (BK rfl) rfl rfl rfl ?_;rintro _ _ ⟨b2,rfl,rfl⟩;refine AZ (ρ:=sng b2 (.cells #[int k,int a,int c,int q,int o,int t,int n,int m,int r] 25 (0,0))) takeZ ?_
 have bx58_3:=rdB b2 25 [int k,int a,int c,int q,int o,int t,int n,int m,int r]
 have c0:=rdC bx58_3 0
 have c1:=rdC bx58_3 1
 have c2:=rdC bx58_3 2
 have c3:=rdC bx58_3 3
 have c4:=rdC bx58_3 4
 have c5:=rdC bx58_3 5
 have c6:=rdC bx58_3 6
 have c7:=rdC bx58_3 7
 have c8:=rdC bx58_3 8
 have cp:RdN (sng b2 (.cells #[int k,int a,int c,int q,int o,int t,int n,int m,int r] 25 (0,0))) b2 1 [int a,int c,int q,int o,int t]:=(rdP_sng (k:=1) (xs:=[int k,int a,int c,int q,int o,int t,int n,int m,int r]) rfl).rd
 repeat' (first
  | (refine AB ?_)
  | (refine AC ?_)
  | (refine AG ?_)
  | (refine AF ?_)
  | (refine AX ?_)
  | (refine AK ?_)
  | (refine AY ?_)
  | (refine AR ?_)
  | (refine AD ?_)
  | (refine AA ?_)
  | (refine AE ?_)
  | (refine AM ?_)
  | (refine A3 rfl ?_)
  | (refine AJ rfl ?_)
  | (refine AN rfl rfl rfl ?_)
  | (focus ((refine AL hid rfl rfl rdZ rfl rfl ?_; rintro _ (⟨rfl,h⟩|⟨rfl,h⟩))))
  | (focus ((refine' BB _ rfl rfl rfl _; rotate_left; (apply C4; exact rfl; exact rfl; exact rfl))))
  | (focus ((refine C5 rfl rfl (cmp_eq _ _) rfl rfl (fun h=>?_) (fun h=>?_))))
  | (focus ((refine C5 rfl rfl (cmp_ne _ _) rfl rfl (fun h=>?_) (fun h=>?_))))
  | (focus ((refine C5 rfl rfl (cmp_lt _ _) rfl rfl (fun h=>?_) (fun h=>?_))))
  | (focus ((refine C5 rfl rfl (cmp_le _ _) rfl rfl (fun h=>?_) (fun h=>?_))))
  | fail)
 all_goals refine AP (res1 rfl rfl) rsubZ selZ ⟨rfl,?_⟩
 all_goals first|exact .inl ⟨rfl,by unfold rpI; refine ⟨by omega,by omega,by assumption,by omega,by omega,by omega,by omega,by omega,by omega,by omega⟩⟩|exact .inr ⟨⟨_,rfl,by decide⟩,by unfold rpI; first|omega|(rintro ⟨_,_,h2,_⟩; contradiction)⟩
theorem rpWithin_spec {n lo hi:Int} (h:lo≤n∧n≤hi):Ans Tryz.prog (fv 18) [int n,int lo,int hi] [] (fun r=>r=.bool true):=by
 obtain ⟨h1,h2⟩:=h
 refine spec_in (cap:=[]) Tryz.func18 rfl rfl Tryz.ntmps18 rfl envZ (fun N β=>?_)
 refine Abu ?_;refine AB ?_;refine DO ?_;refine Abw ?_;refine EY ?_;refine Abv ?_;exact A2 ⟨rfl,rfl⟩
theorem rpId_spec {x:Rep} (hx:x.ok):Ans Tryz.prog (fv 90) [.agg #[int (x.a:Int),int (x.c:Int),int (x.q:Int),int (x.o:Int),int (x.t:Int)]] [] (fun r=>r=.bool true):=by
 unfold Rep.ok at hx
 have w1:=rpWithin_spec (n:=(x.a:Int)) (lo:=0) (hi:=15) ⟨by omega,by omega⟩
 have w2:=rpWithin_spec (n:=(x.c:Int)) (lo:=0) (hi:=1099511627776) ⟨by omega,by omega⟩
 have w3:=rpWithin_spec (n:=(x.q:Int)) (lo:=0) (hi:=1099511627776) ⟨by omega,by omega⟩
 refine spec_in (cap:=[]) Tryz.func90 rfl rfl Tryz.ntmps90 rfl envZ (fun N β=>?_)
 refine Aa ?_;refine A9 (BK rfl) rfl rfl rfl ?_;rintro _ _ ⟨b2,rfl,rfl⟩;refine AZ (ρ:=sng b2 (.cells #[int (x.a:Int),int (x.c:Int),int (x.q:Int),int (x.o:Int),int (x.t:Int)] 23 (0,0))) takeZ ?_
 have bx40_3:=rdB b2 23 [int (x.a:Int),int (x.c:Int),int (x.q:Int),int (x.o:Int),int (x.t:Int)]
 have c0:=rdC bx40_3 0
 have c1:=rdC bx40_3 1
 have c2:=rdC bx40_3 2
 have c3:=rdC bx40_3 3
 have c4:=rdC bx40_3 4
 by_cases hz:x.o=0∧x.t=0
 ·refine AC ?_
  refine Aci ?_
  focus ((refine AL w1 rfl rfl rdZ rfl rfl ?_; rintro _ rfl))
  refine Abe ?_
  focus ((refine AL w2 rfl rfl rdZ rfl rfl ?_; rintro _ rfl))
  refine Abq ?_
  focus ((refine AL w3 rfl rfl rdZ rfl rfl ?_; rintro _ rfl))
  refine Ab5 ?_;refine Aak ?_;refine CN ?_;refine Aah ?_;refine CN ?_;refine AX ?_;refine Ab1 ?_;refine Aae ?_;refine Aae ?_;refine Aae ?_;refine AN rfl rfl rfl ?_;refine Abv ?_;exact A2 ⟨rfl,rfl⟩
 ·have w4:=rpWithin_spec (n:=(x.t:Int)) (lo:=1) (hi:=4096) ⟨by omega,by omega⟩
  have w5:=rpWithin_spec (n:=(x.o:Int)) (lo:=0) (hi:=((x.t-1:Nat):Int)) ⟨by omega,by omega⟩
  by_cases h0:x.o=0
  ·refine AC ?_
   refine Aci ?_
   focus ((refine AL w1 rfl rfl rdZ rfl rfl ?_; rintro _ rfl))
   refine Abe ?_
   focus ((refine AL w2 rfl rfl rdZ rfl rfl ?_; rintro _ rfl))
   refine Abq ?_
   focus ((refine AL w3 rfl rfl rdZ rfl rfl ?_; rintro _ rfl))
   refine Ab5 ?_;refine Aak ?_;refine CN ?_;refine Aah ?_;refine B9 ?_;refine AX ?_;refine Aah ?_
   focus ((refine AL w4 rfl rfl rdZ rfl rfl ?_; rintro _ rfl))
   refine Aah ?_;refine Aac ?_;refine CL ?_
   focus ((refine AL w5 rfl rfl rdZ rfl rfl ?_; rintro _ rfl))
   refine AX ?_;refine AK ?_;refine Aaa ?_;exact A2 ⟨rfl,rfl⟩
  ·refine AC ?_
   refine Aci ?_
   focus ((refine AL w1 rfl rfl rdZ rfl rfl ?_; rintro _ rfl))
   refine Abe ?_
   focus ((refine AL w2 rfl rfl rdZ rfl rfl ?_; rintro _ rfl))
   refine Abq ?_
   focus ((refine AL w3 rfl rfl rdZ rfl rfl ?_; rintro _ rfl))
   refine Ab5 ?_;refine Aak ?_;refine B9 ?_;refine Aa9 ?_;refine Abg ?_
   focus ((refine AL w4 rfl rfl rdZ rfl rfl ?_; rintro _ rfl))
   refine Aah ?_;refine Aac ?_;refine CL ?_
   focus ((refine AL w5 rfl rfl rdZ rfl rfl ?_; rintro _ rfl))
   refine AX ?_;refine AK ?_;refine Aaa ?_;exact A2 ⟨rfl,rfl⟩
theorem rpCheck_spec {x:Rep} (hx:x.ok):Ans Tryz.prog (fv 41) [.agg #[int (x.k:Int),int (x.a:Int),int (x.c:Int),int (x.q:Int),int (x.o:Int),int (x.t:Int),int (x.n:Int),int (x.m:Int),int (x.r:Int)]] [] (fun r=>r=int 0):=by
 have hid:=rpId_spec hx
 have hx0:=hx
 unfold Rep.ok at hx
 have w1:=rpWithin_spec (n:=(x.k:Int)) (lo:=1) (hi:=6) ⟨by omega,by omega⟩
 have w2:=rpWithin_spec (n:=(x.n:Int)) (lo:=0) (hi:=15) ⟨by omega,by omega⟩
 have w3:=rpWithin_spec (n:=(x.m:Int)) (lo:=0) (hi:=1099511627776) ⟨by omega,by omega⟩
 have w4:=rpWithin_spec (n:=(x.r:Int)) (lo:=0) (hi:=7) ⟨by omega,by omega⟩
 refine spec_in (cap:=[]) Tryz.func41 rfl rfl Tryz.ntmps41 rfl envZ (fun N β=>?_)
 refine Aa ?_;refine A9 (BK rfl) rfl rfl rfl ?_;rintro _ _ ⟨b2,rfl,rfl⟩;refine AZ (ρ:=sng b2 (.cells #[int (x.k:Int),int (x.a:Int),int (x.c:Int),int (x.q:Int),int (x.o:Int),int (x.t:Int),int (x.n:Int),int (x.m:Int),int (x.r:Int)] 25 (0,0))) takeZ ?_
 have bx213_3:=rdB b2 25 [int (x.k:Int),int (x.a:Int),int (x.c:Int),int (x.q:Int),int (x.o:Int),int (x.t:Int),int (x.n:Int),int (x.m:Int),int (x.r:Int)]
 have c0:=rdC bx213_3 0
 have c1:=rdC bx213_3 1
 have c2:=rdC bx213_3 2
 have c3:=rdC bx213_3 3
 have c4:=rdC bx213_3 4
 have c5:=rdC bx213_3 5
 have c6:=rdC bx213_3 6
 have c7:=rdC bx213_3 7
 have c8:=rdC bx213_3 8
 have cp:RdN (sng b2 (.cells #[int (x.k:Int),int (x.a:Int),int (x.c:Int),int (x.q:Int),int (x.o:Int),int (x.t:Int),int (x.n:Int),int (x.m:Int),int (x.r:Int)] 25 (0,0))) b2 1 [int (x.a:Int),int (x.c:Int),int (x.q:Int),int (x.o:Int),int (x.t:Int)]:=(rdP_sng (k:=1) (xs:=[int (x.k:Int),int (x.a:Int),int (x.c:Int),int (x.q:Int),int (x.o:Int),int (x.t:Int),int (x.n:Int),int (x.m:Int),int (x.r:Int)]) rfl).rd
 by_cases h4:x.k=4
 ·refine AC ?_
  refine Aal ?_;refine AV ?_;refine Aak ?_
  focus ((refine AL w1 rfl rfl rdZ rfl rfl ?_; rintro _ rfl))
  refine AY ?_;refine Aa8 ?_;refine Ab8 ?_;refine AR ?_
  focus ((refine AL hid rfl rfl rdZ rfl rfl ?_; rintro _ rfl))
  refine Abe ?_
  focus ((refine AL w2 rfl rfl rdZ rfl rfl ?_; rintro _ rfl))
  refine Abq ?_
  focus ((refine AL w3 rfl rfl rdZ rfl rfl ?_; rintro _ rfl))
  refine Abq ?_
  focus ((refine AL w4 rfl rfl rdZ rfl rfl ?_; rintro _ rfl))
  refine AY ?_;refine AK ?_;refine Aa8 ?_;refine Aak ?_;refine CN ?_;refine Aa9 ?_;refine AX ?_;refine Aac ?_;refine DU ?_
  focus ((refine' BB _ rfl rfl rfl _; rotate_left; (apply C4; exact rfl; exact rfl; exact rfl)))
  refine Aaa ?_;refine Aad ?_;refine BE ?_;refine Aaw ?_
  focus ((rw [show ((!(true == true)):Bool)=false from rfl]))
  exact A2 ⟨rfl,rfl⟩
 ·by_cases h6:x.k=6
  ·refine AC ?_
   refine Aal ?_;refine AV ?_;refine Aak ?_
   focus ((refine AL w1 rfl rfl rdZ rfl rfl ?_; rintro _ rfl))
   refine AY ?_;refine Aa8 ?_;refine Ab8 ?_;refine AR ?_
   focus ((refine AL hid rfl rfl rdZ rfl rfl ?_; rintro _ rfl))
   refine Abe ?_
   focus ((refine AL w2 rfl rfl rdZ rfl rfl ?_; rintro _ rfl))
   refine Abq ?_
   focus ((refine AL w3 rfl rfl rdZ rfl rfl ?_; rintro _ rfl))
   refine Abq ?_
   focus ((refine AL w4 rfl rfl rdZ rfl rfl ?_; rintro _ rfl))
   refine AY ?_;refine AK ?_;refine Aa8 ?_;refine Aak ?_;refine B9 ?_;refine Aah ?_;refine CN ?_;refine AK ?_;refine Aac ?_;refine DU ?_
   focus ((refine' BB _ rfl rfl rfl _; rotate_left; (apply C4; exact rfl; exact rfl; exact rfl)))
   refine Aaa ?_;refine Aad ?_;refine BE ?_;refine Aaw ?_
   focus ((rw [show ((!(true == true)):Bool)=false from rfl]))
   exact A2 ⟨rfl,rfl⟩
  ·refine AC ?_
   refine Aal ?_;refine AV ?_;refine Aak ?_
   focus ((refine AL w1 rfl rfl rdZ rfl rfl ?_; rintro _ rfl))
   refine AY ?_;refine Aa8 ?_;refine Ab8 ?_;refine AR ?_
   focus ((refine AL hid rfl rfl rdZ rfl rfl ?_; rintro _ rfl))
   refine Abe ?_
   focus ((refine AL w2 rfl rfl rdZ rfl rfl ?_; rintro _ rfl))
   refine Abq ?_
   focus ((refine AL w3 rfl rfl rdZ rfl rfl ?_; rintro _ rfl))
   refine Abq ?_
   focus ((refine AL w4 rfl rfl rdZ rfl rfl ?_; rintro _ rfl))
   refine AY ?_;refine AK ?_;refine Aa8 ?_;refine Aak ?_;refine B9 ?_;refine Aah ?_;refine B9 ?_;refine AK ?_;refine Aac ?_;refine A5 ?_
   focus ((refine' BB _ rfl rfl rfl _; rotate_left; (apply C4; exact rfl; exact rfl; exact rfl)))
   refine Aaa ?_;refine Aad ?_;refine BE ?_;refine Aaw ?_
   focus ((rw [show ((!(false == false)):Bool)=false from rfl]))
   exact A2 ⟨rfl,rfl⟩
theorem rpAt {x:Rep} {j n:Nat} (h:x.nums[j]?=some n):(#[int (x.k:Int),int (x.a:Int),int (x.c:Int),int (x.q:Int),int (x.o:Int),int (x.t:Int),int (x.n:Int),int (x.m:Int),int (x.r:Int)]:Array Value)[j]?=some (int (n:Int)):=by
 have e:(#[int (x.k:Int),int (x.a:Int),int (x.c:Int),int (x.q:Int),int (x.o:Int),int (x.t:Int),int (x.n:Int),int (x.m:Int),int (x.r:Int)]:Array Value)=(x.nums.map (fun n:Nat=>int (n:Int))).toArray:=rfl
 rw [e,List.getElem?_toArray,List.getElem?_map,h]
 rfl
theorem rpEncode_spec {x:Rep} (hx:x.ok):Ans Tryz.prog (fv 17) [.agg #[int (x.k:Int),int (x.a:Int),int (x.c:Int),int (x.q:Int),int (x.o:Int),int (x.t:Int),int (x.n:Int),int (x.m:Int),int (x.r:Int)]] [] (fun r=>r=.tuple #[str (sealM x.text),int 0]):=by
 have hck:=rpCheck_spec hx
 have hte:=vaText_spec (t:=magR) (by decide)
 rw [x.pre_zero] at hte
 have hse:=veSeal_spec (t:=x.pre 9) (by have:=x.pre_len 9; omega)
 rw [← x.pre_nine]
 refine spec_in (cap:=[]) Tryz.func17 rfl rfl Tryz.ntmps17 rfl envZ (fun N β=>?_)
 refine Aa ?_;refine A9 (BK rfl) rfl rfl rfl ?_;rintro _ _ ⟨b2,rfl,rfl⟩;refine AZ (ρ:=sng b2 (.cells #[int (x.k:Int),int (x.a:Int),int (x.c:Int),int (x.q:Int),int (x.o:Int),int (x.t:Int),int (x.n:Int),int (x.m:Int),int (x.r:Int)] 25 (0,0))) takeZ ?_
 have bx436_3:=rdB b2 25 [int (x.k:Int),int (x.a:Int),int (x.c:Int),int (x.q:Int),int (x.o:Int),int (x.t:Int),int (x.n:Int),int (x.m:Int),int (x.r:Int)]
 have c0:=rdC bx436_3 0
 have c1:=rdC bx436_3 1
 have c2:=rdC bx436_3 2
 have c3:=rdC bx436_3 3
 have c4:=rdC bx436_3 4
 have c5:=rdC bx436_3 5
 have c6:=rdC bx436_3 6
 have c7:=rdC bx436_3 7
 have c8:=rdC bx436_3 8
 have cw:=rdB b2 25 [int (x.k:Int),int (x.a:Int),int (x.c:Int),int (x.q:Int),int (x.o:Int),int (x.t:Int),int (x.n:Int),int (x.m:Int),int (x.r:Int)]
 refine AC ?_;refine Abt ?_;refine AL hck rfl rfl rdZ rfl rfl ?_;rintro _ rfl;refine Aai ?_;refine Ab9 ?_;refine Aa ?_;refine AL hte rfl rfl rdZ rfl rfl ?_;rintro _ rfl;refine Aa2 ?_;refine Aag ?_;refine Aak ?_;refine AF ?_;refine DW ?_;refine AG ?_;refine AF ?_;refine DT ?_;refine AG ?_;refine AF ?_;refine DT ?_;refine AG ?_;refine AF ?_;refine DT ?_;refine AG ?_;refine AF ?_;refine DT ?_;refine AG ?_;refine Aac ?_;refine Aac ?_;refine Aac ?_
 focus ((refine BB (CZ (s:=1) (out:=[int (x.k:Int),int (x.a:Int),int (x.c:Int),int (x.q:Int),int (x.o:Int),int (x.t:Int),int (x.n:Int),int (x.m:Int),int (x.r:Int)]) rfl rfl rfl rfl rfl) rfl rfl rfl ?_))
 refine Abc ?_
 refine BQ [43] (X:=Nat) 0 (fun j=>j≤9) (fun j=>[(44,int (j:Int)),(5,str (x.pre j))]) (fun _=>[]) (fun j=>9-j) pickZ (Nat.zero_le _) covZ selZ ?_
 rintro j hj
 by_cases hlt:j<9
 rotate_left
 ·have hj9:j=9:=by omega
  subst hj9;refine Abd ?_;refine Aab ?_;refine AL hse rfl rfl rdZ rfl rfl ?_;rintro _ rfl;refine Aap ?_;refine Abf ?_;exact AP (res2 rfl rfl rfl) rsubZ selZ ⟨rfl,rfl⟩
 obtain ⟨n,hn⟩:=x.num_at hlt
 have hiv:=vaInt_spec (n:=n) (by have:=Rep.num_le hx hn; omega)
 have hnx:=x.pre_next hn
 have hl1:=x.pre_len j
 have hl2:=vInt_len n
 have hat:=rpAt hn
 refine Ac ?_;refine Aa ?_
 focus ((refine BB (ER rfl rfl rfl rfl rfl hlt hat) rfl rfl rfl ?_))
 refine Aai ?_;refine AL hiv rfl rfl rdZ rfl rfl ?_;rintro _ rfl;refine Aa2 ?_;refine Aaa ?_;refine AA ?_;refine Aan ?_
 focus ((refine BB (DS rfl rfl (by omega)) rfl rfl rfl ?_))
 refine Aaa ?_;refine Abl ?_
 focus ((rw [hnx]))
 exact BJ (j+1) (by omega) (by omega) covZ selZ
end Go.Proofs.YtjopknnkcnehmaaGreatDoor
namespace Go.Eng
open Go.Step
theorem run_storeCells_atT (P:Program) (g o:Nat) (t:TypeId) (fz:Nat × Nat):∀ (vs:List Value) (i:Nat) (cur:Array Value) (w:World),w.heap[g]?=some (.cells cur t fz)→(fz.2=0∨o+i+vs.length≤fz.1)→o+i+vs.length≤cur.size→(∀ v∈vs,v.oneCell'=true) →
    (storeCells ⟨g,o,none⟩ vs i).run P w=.ok () (w.setRow g (cur.toList.take (o+i) ++ vs ++ cur.toList.drop (o+i+vs.length)).toArray)
  | [],i,cur,w,hg,_,_,_=>by
    simp only [storeCells,List.append_nil,List.length_nil,Nat.add_zero,List.take_append_drop,Array.toArray_toList];rw [setRow_self w g cur t fz hg]
    rfl
  | v::rest,i,cur,w,hg,hfz,hl,h1=>by
    have hi:o+i<cur.size:=by simp at hl; omega
    have hadd:(⟨g,o,none⟩:Addr).add i=⟨g,o+i,none⟩:=Addr.add_lit _ _ _
    have hcell:w.cell? ⟨g,o+i,none⟩=some cur[o+i]:=by simp [World.cell?,hg,hi]
    have hfro:w.frozen? ⟨g,o+i,none⟩=false:=by
      obtain ⟨lo,hi'⟩:=fz
      simp only [List.length_cons] at hfz;simp only [World.frozen?,hg,Bool.and_eq_false_iff,decide_eq_false_iff_not]
      rcases hfz with h|h
      · right
        omega
      · left
        omega
    have hst:(store ((⟨g,o,none⟩:Addr).add i) v).run P w=.ok () (w.setRow g (cur.setIfInBounds (o+i) v)):=by
      rw [hadd,run_store P w _ v _ (h1 v (by simp)),hcell]
      simp [hfro,setCell_eq_setRow w g (o+i) cur t fz v hg]
    have ih:=run_storeCells_atT P g o t fz rest (i+1) (cur.setIfInBounds (o+i) v) (w.setRow g (cur.setIfInBounds (o+i) v)) (setRow_heap w g cur _ t _ hg) (by simp at hfz; omega) (by simp at hl ⊢; omega) (fun x hx=>h1 x (by simp [hx]))
    simp only [storeCells,Sem.run_bind,hst,Result.andThen_ok,ih,setRow_setRow]
    congr 3
    have e:=list_seg_step cur.toList (o+i) v rest (by simp at hl ⊢; omega)
    simpa [Array.toList_setIfInBounds,Nat.add_assoc] using e
def OwnB (e:TypeId) (v:Value) (l:List UInt8) (ρ:PH):Prop:=
  ∃ b cap cur fz,v=.slice (some ⟨b,0,none⟩) l.length cap∧ρ=sng b (.cells cur e fz)∧l.length≤cap∧cap≤maxLen∧cur.size=cap∧cur.toList.take l.length=rowS l∧(fz.2=0∨cap≤fz.1)
theorem OwnB.rd {e:TypeId} {v:Value} {l:List UInt8} {ρ:PH} (h:OwnB e v l ρ):∃ b cap,v=.slice (some ⟨b,0,none⟩) l.length cap∧l.length≤cap∧RdN ρ b 0 (rowS l):=by
  obtain ⟨b,cap,cur,fz,rfl,rfl,h1,h2,h3,h4,_⟩:=h
  refine ⟨b,cap,rfl,h1,fun j v hv=>?_⟩
  rw [rdc_sng,Nat.zero_add,← Array.getElem?_toList];rw [← h4] at hv
  have hj:j<l.length:=by
    have:=(List.getElem?_eq_some_iff.1 hv).1
    simp at this; omega
  rwa [List.getElem?_take_of_lt hj] at hv
theorem OwnB.one {e:TypeId} {v:Value} {l:List UInt8} {ρ:PH} (h:OwnB e v l ρ):v.oneCell'=true:=by
  obtain ⟨b,cap,cur,fz,rfl,_⟩:=h
  rfl
theorem byteCells_rowS (l:List UInt8):byteCells ⟨⟨l⟩⟩=rowS l:=rfl
variable {C:Cx} {R H:List PH} {L:Env} {dst:Option Tmp} {ty:TypeId} {pos:String} {aft:Array Edge} {g:Option (Nat × Bool)}
theorem FA {sT dT e:TypeId} {x:Operand} {l:List UInt8} (hx:evalE L x=some (str l)) (h1:C.P.underlying sT=some .string) (h2:C.P.underlying dT=some (.slice e)) (h3:C.P.underlying e=some (.int .u8)) (hl:l.length≤maxLen) :
    Loud C R H L ⟨dst,.convert sT dT x,ty,pos,aft,g⟩ (fun u H'=>∃ ρ,OwnB e u l ρ∧H'=ρ::H):=by
  refine ⟨fun a w hxx hsat next Q hnx=>?_⟩
  have e1:=hxx x (by simp [Op.operands]) _ hx
  have hsz:(⟨⟨l⟩⟩:ByteArray).size=l.length:=rfl
  have hr:=run_bytes_of_string (P:=C.P) w sT dT e ⟨⟨l⟩⟩ h1 h2 h3
  rw [hsz] at hr
  have hge:=grownCap_ge w l.length 0 e
  have hle:=grownCap_le_maxLen w l.length 0 e hl
  have hrow:bytesRow ⟨⟨l⟩⟩ (grownCap w l.length 0 e)=(rowS l).toArray ++ Array.replicate (grownCap w l.length 0 e-l.length) (.int .u8 0):=by
    unfold bytesRow rowS
    simp
    rfl
  have hsize:(bytesRow ⟨⟨l⟩⟩ (grownCap w l.length 0 e)).size=grownCap w l.length 0 e:=by
    rw [hrow]
    simp [rowS]
    omega
  refine wpIn_value (by intro c; simp) (by simp only [execOp,e1]; rw [Sem.run_bind,hr]; rfl) (hnx _ _ _ ⟨sng w.heap.size (.cells (bytesRow ⟨⟨l⟩⟩ (grownCap w l.length 0 e)) e ((bytesRow ⟨⟨l⟩⟩ (grownCap w l.length 0 e)).size,(bytesRow ⟨⟨l⟩⟩ (grownCap w l.length 0 e)).size+1)),⟨w.heap.size,grownCap w l.length 0 e,bytesRow ⟨⟨l⟩⟩ (grownCap w l.length 0 e),((bytesRow ⟨⟨l⟩⟩ (grownCap w l.length 0 e)).size,(bytesRow ⟨⟨l⟩⟩ (grownCap w l.length 0 e)).size+1),rfl,rfl,hge,hle,hsize,?_,.inr (Nat.le_of_eq hsize.symm)⟩,rfl⟩ ?_)
  · rw [hrow,Array.toList_append,List.take_left' (by simp [rowS])]
  · have:=hsat.drew.alloc (.cells (bytesRow ⟨⟨l⟩⟩ (grownCap w l.length 0 e)) e ((bytesRow ⟨⟨l⟩⟩ (grownCap w l.length 0 e)).size,(bytesRow ⟨⟨l⟩⟩ (grownCap w l.length 0 e)).size+1))
    simpa using this
theorem ES {x y:Operand} {t tx e:TypeId} {v:Value} {l m:List UInt8} {ρ:PH} {H':List PH}
    (hx:evalE L x=some v) (hy:evalE L y=some (str m)) (ht:elemP C.P t=some e) (htx:C.P.underlying tx=some .string) (hs:szP C.P e=some 1) (hz:zeroP C.P e=some (.int .u8 0)) (hb:bytesP C.P e=some 1)
    (hown:OwnB e v l ρ) (htk:Take ρ H H') (hmax:l.length+m.length≤1000000) :
    Loud C R H L ⟨dst,.call ⟨.builtin .append,#[x,y],#[t,tx]⟩,ty,pos,aft,g⟩ (fun u H2=>∃ ρ',OwnB e u (l ++ m) ρ'∧H2=ρ'::H'):=by
  refine ⟨fun a w hxx hsat next Q hnx=>?_⟩
  obtain ⟨i,hi,hs1,hiz,hi1⟩:=info_of hs hz hb
  have htu:=und_elem ht
  have hsat':=(hsat.take htk).tail
  have e1:=hxx x (by simp [Op.operands,Call.operands]) _ hx
  have e2:=hxx y (by simp [Op.operands,Call.operands]) _ hy
  have hsz:(⟨⟨m⟩⟩:ByteArray).size=m.length:=rfl
  have hsrc:=Src.ofString (P:=C.P) w htx ⟨⟨m⟩⟩
  rw [← hs1,hsz,byteCells_rowS] at hsrc
  have hex:∀ (u:Value) (w':World),(Builtin.append_ #[t,tx] ty #[v,str m]).run C.P w=.ok u w' →
      (execOp a.eval ⟨dst,.call ⟨.builtin .append,#[x,y],#[t,tx]⟩,ty,pos,aft,g⟩).run C.P w=.ok (.value u) w':=by
    intro u w' hr
    simp [execOp,resolve,e1,e2,invoke,builtin,hr]
  obtain ⟨b,cap,cur,fz,rfl,rfl,h2,h3,h4,h5,h6⟩:=hown
  have hg:w.heap[b]?=some (.cells cur e fz):=hsat.own htk
  have hml:maxLen=maxLen:=rfl
  by_cases hroom:l.length+m.length≤cap
  · have hrl:(rowS m).length=m.length:=rowS_len m
    have hst:=run_storeCells_atT C.P b l.length e fz (rowS m) 0 cur w hg (by rw [hrl]; omega) (by rw [hrl]; omega) (ones_rowS _)
    simp only [Nat.add_zero,hrl] at hst
    have hr:(Builtin.append_ #[t,tx] ty #[.slice (some ⟨b,0,none⟩) l.length cap,str m]).run C.P w=.ok (.slice (some ⟨b,0,none⟩) (l.length+m.length) cap) (w.setRow b (cur.toList.take l.length ++ rowS m ++ cur.toList.drop (l.length+m.length)).toArray):=by
      have hc:=hsrc.cells
      have hln:=hsrc.len
      simp [Builtin.append_,run_underlying htu,run_underlying htx,sizeOf,typeInfo,hi,hs1,hln,hroom,Addr.add_lit]
      rw [hs1] at hc;rw [hc]
      simp [hst]
    refine wpIn_value (by intro c; simp) (hex _ _ hr) (hnx _ _ _ ⟨_,⟨b,cap,_,fz,by rw [List.length_append],rfl,by rw [List.length_append]; exact hroom,h3,?_,?_,h6⟩,rfl⟩ (hsat.turn htk ?_ (setRow_heap w b cur _ e _ hg) (fun k hk=>setRow_other w b k _ hk)))
    · simp only [List.size_toArray,List.length_append,List.length_take,List.length_drop,Array.length_toList,hrl]
      omega
    · rw [h5,rowS_append,← rowS_append]
      exact List.take_left' (rowS_len _)
    · simp
  · have hge:=grownCap_ge w (l.length+m.length) cap e
    have hcm:grownCap w (l.length+m.length) cap e≤maxLen:=grownCap_le_maxLen w _ cap e (by simp only [maxLen]; omega)
    have hold:(Builtin.firstCells i.size l.length (.slice (some ⟨b,0,none⟩) l.length cap)).run C.P w.drew=.ok (rowS l).toArray w.drew:=by
      refine run_firstCells_some w.drew i.size l.length ⟨b,0,none⟩ l.length cap (rowS l) (by rw [rowS_len,hs1,Nat.mul_one]) (fun j u hu=>?_)
      rw [Addr.add_lit]
      show w.cell? _=_
      rw [cell_of_row w b _ cur e fz hg,Nat.zero_add,← Array.getElem?_toList];rw [← h5] at hu
      have hj:j<l.length:=by
        have:=(List.getElem?_eq_some_iff.1 hu).1
        simp at this; omega
      rwa [List.getElem?_take_of_lt hj] at hu
    have hr:=run_append_grow_src (P:=C.P) w t tx ty e i (.int .u8 0) htu hi hiz (some ⟨b,0,none⟩) l.length cap (rowS l) hold (str m) m.length (rowS m) hsrc (by omega) (by omega) (growslice_fits (by omega) (by rw [hi1]; omega))
    refine wpIn_value (by intro c; simp) (hex _ _ hr) (hnx _ _ _ ⟨sng w.heap.size (.cells ((rowS l ++ rowS m).toArray ++ Builtin.zeroCells (Value.int .u8 0).cells (grownCap w (l.length+m.length) cap e-(l.length+m.length))) e (0,0)),⟨w.heap.size,grownCap w (l.length+m.length) cap e,((rowS l ++ rowS m).toArray ++ Builtin.zeroCells (Value.int .u8 0).cells (grownCap w (l.length+m.length) cap e-(l.length+m.length))),(0,0),by rw [List.length_append],rfl,by rw [List.length_append]; exact hge,hcm,?_,?_,.inl rfl⟩,rfl⟩ ?_)
    · simp only [Array.size_append,List.size_toArray,List.length_append,rowS_len,size_zeroCells]
      simp [Value.cells]
      omega
    · rw [Array.toList_append,← rowS_append]
      exact List.take_left' (rowS_len _)
    · have:=hsat'.drew.alloc (.cells ((rowS l ++ rowS m).toArray ++ Builtin.zeroCells (Value.int .u8 0).cells (grownCap w (l.length+m.length) cap e-(l.length+m.length))) e)
      simpa using this
theorem FQ {x y:Operand} {t t2 e:TypeId} {b o dl dc:Nat} {l p:List UInt8} {v:Value} {ρ:PH} {H':List PH}
    (hx:evalE L x=some (.slice (some ⟨b,o,none⟩) dl dc)) (hy:evalE L y=some (str p)) (ht:elemP C.P t=some e) (hs:szP C.P e=some 1)
    (hown:OwnB e v l ρ) (hv:∃ n c,v=.slice (some ⟨b,0,none⟩) n c) (htk:Take ρ H H') (hdl:p.length≤dl) (hfit:o+p.length≤l.length) :
    Loud C R H L ⟨dst,.call ⟨.builtin .copy,#[x,y],#[t,t2]⟩,ty,pos,aft,g⟩ (fun u H2=>∃ ρ',u=.int .i64 (p.length:Int)∧OwnB e v (wrB l o p) ρ'∧H2=ρ'::H'):=by
  refine ⟨fun a w hxx hsat next Q hnx=>?_⟩
  obtain ⟨ti,hi,hsz⟩:∃ i,C.P.info? e=some i∧i.size=1:=by
    unfold szP at hs
    cases hi:C.P.info? e with
    | none=>simp [hi] at hs
    | some i=>simp only [hi,Option.some.injEq] at hs; exact ⟨i,rfl,hs⟩
  obtain ⟨b',cap,cur,fz,rfl,rfl,h2,h3,h4,h5,h6⟩:=hown
  obtain ⟨n',c',e0⟩:=hv
  simp only [Value.slice.injEq,Option.some.injEq,Addr.mk.injEq,true_and,and_true] at e0
  obtain ⟨rfl,rfl,rfl⟩:=e0
  have htu:=und_elem ht
  have e1:=hxx x (by simp [Op.operands,Call.operands]) _ hx
  have e2:=hxx y (by simp [Op.operands,Call.operands]) _ hy
  have hg:w.heap[b']?=some (.cells cur e fz):=hsat.own htk
  have hmin:Nat.min p.length dl=p.length:=Nat.min_eq_left hdl
  have hf:(Builtin.firstCells ti.size p.length (str p)).run C.P w=.ok (rowS p).toArray w:=by
    have:=firstCells_string (P:=C.P) ⟨⟨p⟩⟩ w
    rw [hsz];exact this
  have hlen:(rowS p).length=p.length:=rowS_len p
  have hst:=run_storeCells_atT C.P b' o e fz (rowS p) 0 cur w hg (by rw [hlen]; omega) (by rw [hlen]; omega) (ones_rowS _)
  simp only [Nat.add_zero,hlen] at hst
  have hr:(Builtin.copy_ #[t,t2] ty #[.slice (some ⟨b',o,none⟩) dl dc,str p]).run C.P w=.ok (.int .i64 (p.length:Int)) (w.setRow b' (cur.toList.take o ++ rowS p ++ cur.toList.drop (o+p.length)).toArray):=by
    have hlo:(⟨⟨p⟩⟩:ByteArray).size=p.length:=rfl
    simp only [Builtin.copy_]
    simp [run_underlying htu,Builtin.lenOf,sizeOf,typeInfo,hi,goInt,hlo]
    rw [hmin,hf]
    simpa using congrArg (fun r=>r.andThen fun _ w'=>Result.ok (Value.int .i64 (p.length:Int)) w') hst
  have hexec:(execOp a.eval ⟨dst,.call ⟨.builtin .copy,#[x,y],#[t,t2]⟩,ty,pos,aft,g⟩).run C.P w=.ok (.value (.int .i64 (p.length:Int))) (w.setRow b' (cur.toList.take o ++ rowS p ++ cur.toList.drop (o+p.length)).toArray):=by
    simp [execOp,resolve,e1,e2,invoke,builtin,hr]
  have hwl:=wrB_len hfit
  refine wpIn_value (by intro c; simp) hexec (hnx _ _ _ ⟨_,rfl,⟨b',cap,_,fz,by rw [hwl],rfl,by rw [hwl]; exact h2,h3,?_,?_,h6⟩,rfl⟩ (hsat.turn htk ?_ (setRow_heap w b' cur _ e _ hg) (fun k hk=>setRow_other w b' k _ hk)))
  · simp only [List.size_toArray,List.length_append,List.length_take,List.length_drop,Array.length_toList,hlen]
    omega
  · rw [hwl]
    have e3:cur.toList=rowS l ++ cur.toList.drop l.length:=by rw [← h5,List.take_append_drop]
    have hl:(rowS l).length=l.length:=rowS_len l
    have e4:cur.toList.take o=rowS (l.take o):=by rw [e3,List.take_append_of_le_length (by rw [hl]; omega),rowS_take]
    have e5:cur.toList.drop (o+p.length)=rowS (l.drop (o+p.length)) ++ cur.toList.drop l.length:=by
      rw [← rowS_drop,← List.drop_append_of_le_length (by rw [hl]; omega),← e3]
    rw [e4,e5,← List.append_assoc,← rowS_append,← rowS_append]
    exact List.take_left' (by rw [rowS_len]; exact hwl)
  · simp
theorem Spec.bound {P:Program} {fn:Fn} {fs args:List Value} {cap:Array Value} {R H:List PH} {post:Value→List PH→Prop} (h:Spec P (.func fn #[] cap) (fs ++ args) R H post):Spec P (.func fn fs.toArray cap) args R H post:=by
  intro N w hs
  have h2:=h N w hs
  unfold CallsV at h2 ⊢
  simpa [Deferred.ofValue] using h2
def fillR (l:List Nat) (j:Nat):List Value:=(l.take j).map (fun n:Nat=>int (n:Int)) ++ List.replicate (l.length-j) (int 0)
theorem fillR_set {l:List Nat} {j n:Nat} (h:l[j]?=some n):((fillR l j).toArray.setIfInBounds j (int (n:Int)))=(fillR l (j+1)).toArray:=by
  have hl:=(List.getElem?_eq_some_iff.1 h).1
  have e:l.length-j=(l.length-(j+1))+1:=by omega
  apply Array.ext'
  rw [Array.toList_setIfInBounds];unfold fillR
  rw [e,List.replicate_succ,List.set_append_right _ _ (by simp; omega),List.take_add_one,h]
  simp
  have:j-min j l.length=0:=by omega
  rw [this]
  rfl
theorem fillR_setA {l:List Nat} {j n:Nat} (tl:List Value) (h:l[j]?=some n):((fillR l j ++ tl).toArray.setIfInBounds j (int (n:Int)))=(fillR l (j+1) ++ tl).toArray:=by
  have hl:=(List.getElem?_eq_some_iff.1 h).1
  have h1:=congrArg Array.toList (fillR_set h)
  rw [Array.toList_setIfInBounds] at h1
  have hlen:j<(fillR l j).length:=by
    unfold fillR
    simp
    omega
  apply Array.ext'
  rw [Array.toList_setIfInBounds]
  show (fillR l j ++ tl).set j (int (n:Int))=fillR l (j+1) ++ tl
  rw [List.set_append_left _ _ hlen]
  have h2:(fillR l j).set j (int (n:Int))=fillR l (j+1):=h1
  rw [h2]
theorem fillR_len {l:List Nat} {j:Nat} (h:j≤l.length):(fillR l j).length=l.length:=by
  unfold fillR
  simp
  omega
def KnAt (ρ:PH) (bk f l:Nat):Prop:=rdc ρ bk 0=some (int (f:Int))∧rdc ρ bk 1=some (int (l:Int))
theorem knAt_sng {b f l:Nat} {T:TypeId} {fr:Nat × Nat}:KnAt (sng b (.cells #[int (f:Int),int (l:Int)] T fr)) b f l:=⟨by rw [rdc_sng]; rfl,by rw [rdc_sng]; rfl⟩
theorem KnAt.rd {ρ:PH} {b f l:Nat} (h:KnAt ρ b f l):RdN ρ b 0 [int (f:Int),int (l:Int)]:=fun j v hv=>by
  match j,hv with
  | 0,hv=>cases hv; exact h.1
  | 1,hv=>cases hv; exact h.2
theorem KnAt.sl {ρ:PH} {b f l c:Nat} (h:KnAt ρ b f l):SlAt ρ 2 (.slice (some ⟨b,0,none⟩) 1 c) 1 [int (f:Int),int (l:Int)]:=⟨rfl,.inr ⟨b,0,c,rfl,fun j u hu=>h.rd j u hu⟩⟩
theorem knAt_own {ρ:PH} {e:TypeId} {v:Value} {f l:Nat} (h:OwnS e 2 v 1 [int (f:Int),int (l:Int)] ρ):∃ b c,v=.slice (some ⟨b,0,none⟩) 1 c∧KnAt ρ b f l:=by
  obtain ⟨_,⟨_,h0,_⟩|⟨b,cap,cur,rfl,rfl,h2,h3,h4,h5⟩⟩:=h
  · omega
  have hr:∀ j v,([int (f:Int),int (l:Int)]:List Value)[j]?=some v→rdc (sng b (.cells cur e (0,0))) b j=some v:=fun j v hv=>by
    rw [rdc_sng,← Array.getElem?_toList];rw [← h5] at hv
    have hj:j<1*2:=by
      have:=(List.getElem?_eq_some_iff.1 hv).1
      simp at this; omega
    rwa [List.getElem?_take_of_lt hj] at hv
  exact ⟨b,cap,rfl,hr 0 _ rfl,hr 1 _ rfl⟩
end Go.Eng
namespace Go.Proofs.YtjopknnkcnehmaaGreatDoor
open Go.Eng Go.Step
set_option maxRecDepth 100000
set_option maxHeartbeats 64000000
theorem rpNumber_spec {s tl:List UInt8} {n:Nat} (hn:n≤1152921504606846976) (hs:s=vInt n ++ tl) (hl:s.length≤1000000) (br:Nat) :
  Eng.Spec Tryz.prog (fv 70) [.pointer (some ⟨br,0,none⟩)] [] [sng br (.cells #[str s,.bool false] 160 (0,0))] (fun r H'=>r=int (n:Int)∧H'=[sng br (.cells #[str tl,.bool false] 160 (0,0))]):=by
 have hri:=vaReadInt_spec hn hs (by omega)
 have hdr:s.drop (vInt n).length=tl:=by rw [hs,List.drop_left]
 have hle:(vInt n).length≤s.length:=by rw [hs,List.length_append]; omega
 generalize (vInt n).length=V at *
 refine spec_in (cap:=[]) Tryz.func70 rfl rfl Tryz.ntmps70 rfl envZ (fun N β=>?_)
 refine Abu ?_;refine Aa5 ?_;refine AL hri rfl rfl rdZ rfl rfl ?_;rintro _ rfl;refine Acd ?_;refine Aam ?_;refine Aa5 ?_;refine Aan ?_;refine Abs ?_;refine Aca ?_;refine Aa5 ?_;refine AB ?_
 focus ((refine BB (EJ rfl rfl rfl (by omega)) rfl rfl rfl ?_))
 refine Abj ?_
 focus ((rw [hdr]))
 refine A6 ?_; rintro _ _ ⟨rfl,rfl⟩;refine Abb ?_;refine Aaa ?_;exact AP (H':=[sng br (.cells #[str tl,.bool false] 160 (0,0))]) (res1 rfl rfl) rsubZ selZ ⟨rfl,rfl⟩
theorem rpNe:(!(magR == [65,82,49]))=false:=rfl
theorem rpNe0:(!(([]:List UInt8) == []))=false:=rfl
theorem rpDecode_spec {x:Rep} (hx:x.ok):Ans Tryz.prog (fv 36) [str (sealM x.text)] [] (fun r=>r=.tuple #[.agg #[int (x.k:Int),int (x.a:Int),int (x.c:Int),int (x.q:Int),int (x.o:Int),int (x.t:Int),int (x.n:Int),int (x.m:Int),int (x.r:Int)],int 0]):=by
 have hck:=rpCheck_spec hx
 have htl:=x.text_len
 have hsl:(sealM x.text).length≤130:=by
  have h1:=vText_len x.text
  have h2:=vInt_len x.text.length
  unfold sealM;rw [List.length_append,h1]
  show _+4≤130
  omega
 have hop:=veOpen_spec (s:=sealM x.text) (t:=x.text) (tl:=[]) (by omega) (List.append_nil _).symm (by omega)
 have hrt:=vaReadText_spec (s:=x.text) (t:=magR) (tl:=vAll x.nums) (by decide) rfl (by omega)
 have hdr:x.text.drop (vText magR).length=vAll (x.nums.drop 0):=by
  unfold Rep.text;rw [List.drop_left]
  rfl
 have hle:(vText magR).length≤x.text.length:=by
  unfold Rep.text;rw [List.length_append];omega
 generalize (vText magR).length=V at *
 generalize hT:x.text=T at *
 generalize hS:sealM T=S at *
 refine spec_in (cap:=[]) Tryz.func36 rfl rfl Tryz.ntmps36 rfl envZ (fun N β=>?_)
 refine Aa ?_;refine A9 (BP rfl) rfl rfl rfl ?_;rintro _ _ ⟨b2,rfl,rfl⟩;refine Aai ?_;refine AL hop rfl rfl rdZ rfl rfl ?_;rintro _ rfl;refine Acd ?_;refine Aam ?_;refine A5 ?_;refine Abw ?_
 focus ((refine' BB _ rfl rfl rfl _; rotate_left; (apply BW; exact rfl; exact rfl)))
 refine Abs ?_;refine Aab ?_;refine AL hrt rfl rfl rdZ rfl rfl ?_;rintro _ rfl;refine Acd ?_;refine Aam ?_;refine A5 ?_;refine Aan ?_
 focus ((refine' BB _ rfl rfl rfl _; rotate_left; (apply EB; exact rfl; exact rfl)))
 refine Aao ?_;refine Aca ?_
 focus ((rw [rpNe]))
 focus ((refine BB (EJ rfl rfl rfl (by omega)) rfl rfl rfl ?_))
 refine B0 ?_
 focus ((rw [hdr]))
 refine CJ ?_; rintro _ _ ⟨b,rfl,rfl⟩;refine Aai ?_;refine CE ?_;refine Aaa ?_;refine Aa ?_;refine BG ?_; rintro _ _ ⟨b,rfl,rfl⟩;refine Abx ?_;refine AE ?_;refine AV ?_
 revert b; intro b11
 revert b; intro br
 refine BQ [9,10,11,2,3] (X:=Nat) 0 (fun j=>j≤9) (fun j=>[(49,int (j:Int))]) (fun j=>[sng br (.cells #[str (vAll (x.nums.drop j)),.bool false] 160 (0,0)),sng b11 (.cells (fillR x.nums j).toArray 124 (0,0)),sng b2 (.cells #[int 0,int 0,int 0,int 0,int 0,int 0,int 0,int 0,int 0] 25 (0,0))]) (fun j=>9-j) pickZ (Nat.zero_le _) covZ selZ ?_
 rintro j hj
 by_cases hlt:j<9
 ·obtain ⟨n,hn⟩:=x.num_at hlt
  have hln:=vAll_len (x.nums.drop j)
  have hl9:(x.nums.drop j).length≤9:=by rw [List.length_drop]; exact Nat.sub_le _ _
  have hnb:=Spec.bound (fs:=[.pointer (some ⟨br,0,none⟩)]) (args:=[]) (rpNumber_spec (s:=vAll (x.nums.drop j)) (n:=n) (tl:=vAll (x.nums.drop (j+1))) (by have:=Rep.num_le hx hn; omega) (vAll_drop hn) (by omega) br)
  have hfs:=fillR_set hn
  refine Ac ?_;refine Aab ?_;refine Aaa ?_;refine AA ?_;refine Aan ?_;refine BF hnb rfl rfl takesZ rdZ rfl rfl ?_;rintro _ _ ⟨rfl,rfl⟩
  focus ((refine BB (CB (s:=1) (i:=j) (m:=j) rfl rfl rfl rfl hlt (by omega)) rfl rfl rfl ?_))
  focus ((refine B4 (DH rfl rfl rfl rfl takeZ (by rw [List.size_toArray,fillR_len (by exact hj)]; exact hlt)) rfl rfl ?_; rintro _ _ ⟨rfl,rfl⟩))
  refine AE ?_;refine Abl ?_;rw [hfs]
  exact BJ (j+1) (by omega) (by omega) covZ selZ
 have hj9:j=9:=by omega
 subst hj9;refine AZ (ρ:=sng b11 (.cells #[int (x.k:Int),int (x.a:Int),int (x.c:Int),int (x.q:Int),int (x.o:Int),int (x.t:Int),int (x.n:Int),int (x.m:Int),int (x.r:Int)] 124 (0,0))) takeZ ?_
 have bx224_3:=rdB b11 124 [int (x.k:Int),int (x.a:Int),int (x.c:Int),int (x.q:Int),int (x.o:Int),int (x.t:Int),int (x.n:Int),int (x.m:Int),int (x.r:Int)]
 have d0:=rdC bx224_3 0
 have d1:=rdC bx224_3 1
 have d2:=rdC bx224_3 2
 have d3:=rdC bx224_3 3
 have d4:=rdC bx224_3 4
 have d5:=rdC bx224_3 5
 have d6:=rdC bx224_3 6
 have d7:=rdC bx224_3 7
 have d8:=rdC bx224_3 8
 refine Abd ?_;refine Aa ?_
 focus ((refine BB (CB (i:=0) (m:=0) rfl rfl rfl rfl (by decide) rfl) rfl rfl rfl ?_))
 refine AG ?_
 focus ((refine BB (CB (i:=1) (m:=1) rfl rfl rfl rfl (by decide) rfl) rfl rfl rfl ?_))
 refine AG ?_
 focus ((refine BB (CB (i:=2) (m:=2) rfl rfl rfl rfl (by decide) rfl) rfl rfl rfl ?_))
 refine AG ?_
 focus ((refine BB (CB (i:=3) (m:=3) rfl rfl rfl rfl (by decide) rfl) rfl rfl rfl ?_))
 refine AG ?_
 focus ((refine BB (CB (i:=4) (m:=4) rfl rfl rfl rfl (by decide) rfl) rfl rfl rfl ?_))
 refine AG ?_
 focus ((refine BB (CB (i:=5) (m:=5) rfl rfl rfl rfl (by decide) rfl) rfl rfl rfl ?_))
 refine AG ?_;refine B0 ?_
 focus ((refine BB (CB (i:=6) (m:=6) rfl rfl rfl rfl (by decide) rfl) rfl rfl rfl ?_))
 refine AG ?_
 focus ((refine BB (CB (i:=7) (m:=7) rfl rfl rfl rfl (by decide) rfl) rfl rfl rfl ?_))
 refine AG ?_
 focus ((refine BB (CB (i:=8) (m:=8) rfl rfl rfl rfl (by decide) rfl) rfl rfl rfl ?_))
 refine AG ?_
 focus ((refine BB (A8 (out:=[int (x.k:Int),int (x.a:Int),int (x.c:Int),int (x.q:Int),int (x.o:Int),int (x.t:Int),int (x.n:Int),int (x.m:Int),int (x.r:Int)]) rfl rfl rfl rfl rfl) rfl rfl rfl ?_))
 refine BG ?_; rintro _ _ ⟨b,rfl,rfl⟩;refine A4 ?_; rintro _ _ ⟨rfl,rfl⟩;refine Abx ?_;refine Aa5 ?_;refine Aan ?_;refine Aa5 ?_
 focus ((refine' BB _ rfl rfl rfl _; rotate_left; (apply EB; exact rfl; exact rfl)))
 refine Abo ?_;refine AR ?_;refine AL hck rfl rfl rdZ rfl rfl ?_;rintro _ rfl;refine Abs ?_;refine Aat ?_;refine A4 ?_; rintro _ _ ⟨rfl,rfl⟩;refine Aaa ?_;exact AP (resSE (b1:=b2) (T:=25) (v1:=[int (x.k:Int),int (x.a:Int),int (x.c:Int),int (x.q:Int),int (x.o:Int),int (x.t:Int),int (x.n:Int),int (x.m:Int),int (x.r:Int)]) rfl rfl rfl rfl rfl (cells_own memZ)) rsubZ selZ ⟨rfl,rfl⟩
theorem bnCheck_spec {x:Bn} (hx:x.ok):Ans Tryz.prog (fv 19) [.agg #[int (x.a:Int),int (x.c:Int),int 7,int (x.o:Int),int (x.t:Int),int 1,int (x.n:Int),int (x.l:Int),int 1,int 4,.slice none 0 0,str x.d]] [] (fun r=>r=int 0):=by
 unfold Bn.ok at hx
 have hid:=bnId_spec (a:=(x.a:Int)) (c:=(x.c:Int)) (q:=7) (o:=(x.o:Int)) (t:=(x.t:Int)) ⟨by omega,by omega⟩ ⟨by omega,by omega⟩ ⟨by omega,by omega⟩ (by omega)
 have hep:=epCheck_spec (k:=1) (n:=(x.n:Int)) (.inl ⟨rfl,by omega,by omega⟩)
 have hw:=bnWithin_spec (n:=1) (lo:=0) (hi:=2) ⟨by omega,by omega⟩
 have hfl:Ans Tryz.prog (fv 45) [.agg #[int (x.a:Int),int (x.c:Int),int 7,int (x.o:Int),int (x.t:Int),int 1,int (x.n:Int),int (x.l:Int),int 1,int 4,.slice none 0 0,str x.d]] [] (fun r=>r=int 0):=bnFlags_spec (f:=4) (by omega) (.inr rfl) (.inr rfl)
 have hbl:=bnBlocks_spec
 have hpa:Ans Tryz.prog (fv 47) [.agg #[int (x.a:Int),int (x.c:Int),int 7,int (x.o:Int),int (x.t:Int),int 1,int (x.n:Int),int (x.l:Int),int 1,int 4,.slice none 0 0,str x.d]] [] (fun r=>r=int 0):=bnPay_spec (by omega) (by omega) ⟨by omega,by omega⟩ ⟨by omega,by omega⟩
 refine spec_in (cap:=[]) Tryz.func19 rfl rfl Tryz.ntmps19 rfl envZ (fun N β=>?_)
 refine Aa ?_;refine A9 (BK rfl) rfl rfl rfl ?_;rintro _ _ ⟨b2,rfl,rfl⟩;refine AZ (ρ:=sng b2 (.cells #[int (x.a:Int),int (x.c:Int),int 7,int (x.o:Int),int (x.t:Int),int 1,int (x.n:Int),int (x.l:Int),int 1,int 4,.slice none 0 0,str x.d] 34 (0,0))) takeZ ?_
 have bx24_3:=rdB b2 34 [int (x.a:Int),int (x.c:Int),int 7,int (x.o:Int),int (x.t:Int),int 1,int (x.n:Int),int (x.l:Int),int 1,int 4,.slice none 0 0,str x.d]
 have c0:=rdC bx24_3 0
 have c1:=rdC bx24_3 1
 have c2:=rdC bx24_3 2
 have c3:=rdC bx24_3 3
 have c4:=rdC bx24_3 4
 have c5:=rdC bx24_3 5
 have c6:=rdC bx24_3 6
 have c7:=rdC bx24_3 7
 have c8:=rdC bx24_3 8
 have c9:=rdC bx24_3 9
 have c10:=rdC bx24_3 10
 have c11:=rdC bx24_3 11
 have cw:=rdB b2 34 [int (x.a:Int),int (x.c:Int),int 7,int (x.o:Int),int (x.t:Int),int 1,int (x.n:Int),int (x.l:Int),int 1,int 4,.slice none 0 0,str x.d]
 have cp:RdP (sng b2 (.cells #[int (x.a:Int),int (x.c:Int),int 7,int (x.o:Int),int (x.t:Int),int 1,int (x.n:Int),int (x.l:Int),int 1,int 4,.slice none 0 0,str x.d] 34 (0,0))) b2 0 [int (x.a:Int),int (x.c:Int),int 7,int (x.o:Int),int (x.t:Int)]:=rdP_sng (k:=0) (xs:=[int (x.a:Int),int (x.c:Int),int 7,int (x.o:Int),int (x.t:Int),int 1,int (x.n:Int),int (x.l:Int),int 1,int 4,.slice none 0 0,str x.d]) rfl
 have cq:RdP (sng b2 (.cells #[int (x.a:Int),int (x.c:Int),int 7,int (x.o:Int),int (x.t:Int),int 1,int (x.n:Int),int (x.l:Int),int 1,int 4,.slice none 0 0,str x.d] 34 (0,0))) b2 5 [int 1,int (x.n:Int)]:=rdP_sng (k:=5) (xs:=[int (x.a:Int),int (x.c:Int),int 7,int (x.o:Int),int (x.t:Int),int 1,int (x.n:Int),int (x.l:Int),int 1,int 4,.slice none 0 0,str x.d]) rfl
 refine Aag ?_;refine Ab8 ?_;refine AR ?_
 focus ((refine AL hid rfl rfl rdZ rfl rfl ?_; rintro _ rfl))
 refine Aai ?_;refine Aba ?_;refine Ab8 ?_;refine AR ?_
 focus ((refine AL hep rfl rfl rdZ rfl rfl ?_; rintro _ rfl))
 refine Aai ?_;refine Aba ?_;refine Aak ?_;refine BM ?_;refine Aah ?_;refine Aay ?_;refine CR ?_;refine BZ ?_;refine Aao ?_;refine Ace ?_
 focus ((refine AL hw rfl rfl rdZ rfl rfl ?_; rintro _ rfl))
 refine AY ?_;refine Aax ?_;refine Aat ?_
 focus ((refine AL hfl rfl rfl rdZ rfl rfl ?_; rintro _ rfl))
 refine Aai ?_;refine Aba ?_;refine Aak ?_
 focus ((refine AL hbl rfl rfl rdZ rfl rfl ?_; rintro _ rfl))
 refine Aai ?_;refine Ab9 ?_;refine Aat ?_
 focus ((refine AL hpa rfl rfl rdZ rfl rfl ?_; rintro _ rfl))
 refine Aaa ?_;exact A2 ⟨rfl,rfl⟩
theorem bnNums_spec (b:Nat):Ans Tryz.prog (fv 24) [.pointer (some ⟨b,0,none⟩)] [] (fun r=>r=.agg #[.pointer (some ⟨b,0,none⟩),.pointer (some ⟨b,1,none⟩),.pointer (some ⟨b,2,none⟩),.pointer (some ⟨b,3,none⟩),.pointer (some ⟨b,4,none⟩),.pointer (some ⟨b,5,none⟩),.pointer (some ⟨b,6,none⟩),.pointer (some ⟨b,7,none⟩),.pointer (some ⟨b,8,none⟩),.pointer (some ⟨b,9,none⟩)]):=by
 refine spec_in (cap:=[]) Tryz.func24 rfl rfl Tryz.ntmps24 rfl envZ (fun N β=>?_)
 refine Aa ?_;refine A9 (BP rfl) rfl rfl rfl ?_;rintro _ _ ⟨b2,rfl,rfl⟩;refine Abb ?_;refine Abj ?_;refine Aag ?_
 refine BH (.q 0 (.q 1 (.q 2 (.q 3 (.q 4 (.q 5 (.q 6 (.q 7 (.q 8 (.q 9 (.q 10 (.q 11 (.q 12 (.q 13 (.q 14 (.q 15 (.q 16 (.q 17 (.q 18 (.q 19 (.q 20 (.q 21 (.q 22 (.q 23 (.q 24 (.q 25 (.q 26 (.q 27 (.q 28 (.q 29 (.q 30 (.q 31 (.q 32 (.l 33 .b .nil)))))))))))))))))))))))))))))))))) [] rfl (by kernel_rfl) selZ ?_
 refine Aa6 ?_;refine Aa6 ?_;refine Aa6 ?_;refine Aa6 ?_;refine Aa6 ?_;refine Aa6 ?_;refine EM ?_;refine Aa6 ?_;refine D6 ?_;refine Aa6 ?_;refine Aa6 ?_;refine Aa6 ?_
 focus ((refine BR rfl (CZ (s:=1) (out:=[.pointer (some ⟨b,0,none⟩),.pointer (some ⟨b,1,none⟩),.pointer (some ⟨b,2,none⟩),.pointer (some ⟨b,3,none⟩),.pointer (some ⟨b,4,none⟩),.pointer (some ⟨b,5,none⟩),.pointer (some ⟨b,6,none⟩),.pointer (some ⟨b,7,none⟩),.pointer (some ⟨b,8,none⟩),.pointer (some ⟨b,9,none⟩)]) rfl rfl rfl rfl rfl) rfl rfl rfl rfl ?_))
 focus ((refine BV ?_; refine' CU rfl _ rfl rfl _ _; rotate_left; (focus (apply BA; exact rfl; exact rfl; exact takeZ; exact oneZ; exact rfl; exact rfl)); (focus (rintro _ _ ⟨_,rfl⟩ w hw; exact hw.sel selZ)); rintro _ _ ⟨rfl,rfl⟩))
 refine A7 ?_
 skip
 exact AP (resS1 (b1:=b2) (v1:=[.pointer (some ⟨b,0,none⟩),.pointer (some ⟨b,1,none⟩),.pointer (some ⟨b,2,none⟩),.pointer (some ⟨b,3,none⟩),.pointer (some ⟨b,4,none⟩),.pointer (some ⟨b,5,none⟩),.pointer (some ⟨b,6,none⟩),.pointer (some ⟨b,7,none⟩),.pointer (some ⟨b,8,none⟩),.pointer (some ⟨b,9,none⟩)]) rfl rfl rfl rfl (cells_own memZ)) rsubZ selZ ⟨rfl,rfl⟩
theorem blNone_spec:Ans Tryz.prog (fv 26) [.slice none 0 0] [] (fun r=>r=.tuple #[str (vInt 0),int 0]):=by
 have hi:=vaInt_spec (n:=0) (by omega)
 refine spec_in (cap:=[]) Tryz.func26 rfl rfl Tryz.ntmps26 rfl envZ (fun N β=>?_)
 refine Abi ?_;refine Aam ?_;refine BT ?_;refine BZ ?_;refine Aaf ?_;refine Aab ?_;refine BT ?_;refine AL hi rfl rfl rdZ rfl rfl ?_;rintro _ rfl;refine Aa2 ?_;refine Aam ?_;refine Acf ?_
 refine BQ [4,20] (X:=Unit) () (fun _=>True) (fun _=>[(21,int 0)]) (fun _=>[]) (fun _=>0) pickZ trivial covZ Sel.refl ?_
 rintro ⟨⟩ -;refine Abd ?_;refine Aab ?_;refine Abf ?_;exact AP (res2 rfl rfl rfl) rsubZ selZ ⟨rfl,rfl⟩
theorem ptAt (b:Nat):∀ {j:Nat},j<10→(#[.pointer (some ⟨b,0,none⟩),.pointer (some ⟨b,1,none⟩),.pointer (some ⟨b,2,none⟩),.pointer (some ⟨b,3,none⟩),.pointer (some ⟨b,4,none⟩),.pointer (some ⟨b,5,none⟩),.pointer (some ⟨b,6,none⟩),.pointer (some ⟨b,7,none⟩),.pointer (some ⟨b,8,none⟩),.pointer (some ⟨b,9,none⟩)]:Array Value)[j]?=some (.pointer (some ⟨b,j,none⟩))
 | 0,_=>rfl
 | 1,_=>rfl
 | 2,_=>rfl
 | 3,_=>rfl
 | 4,_=>rfl
 | 5,_=>rfl
 | 6,_=>rfl
 | 7,_=>rfl
 | 8,_=>rfl
 | 9,_=>rfl
 | j+10,h=>absurd h (by omega)
theorem bnAt {x:Bn} {b2 j n:Nat} (h:x.nums[j]?=some n):rdc (sng b2 (.cells #[int (x.a:Int),int (x.c:Int),int 7,int (x.o:Int),int (x.t:Int),int 1,int (x.n:Int),int (x.l:Int),int 1,int 4,.slice none 0 0,str x.d] 34 (0,0))) b2 j=some (int (n:Int)):=by
 have hl:=(List.getElem?_eq_some_iff.1 h).1
 have e:(#[int (x.a:Int),int (x.c:Int),int 7,int (x.o:Int),int (x.t:Int),int 1,int (x.n:Int),int (x.l:Int),int 1,int 4,.slice none 0 0,str x.d]:Array Value)=(x.nums.map (fun n:Nat=>int (n:Int)) ++ [.slice none 0 0,str x.d]).toArray:=rfl
 rw [rdc_sng,e,List.getElem?_toArray,List.getElem?_append_left (by rw [List.length_map]; exact hl),List.getElem?_map,h]
 rfl
theorem bnEncode_spec {x:Bn} (hx:x.ok):Ans Tryz.prog (fv 9) [.agg #[int (x.a:Int),int (x.c:Int),int 7,int (x.o:Int),int (x.t:Int),int 1,int (x.n:Int),int (x.l:Int),int 1,int 4,.slice none 0 0,str x.d]] [] (fun r=>r=.tuple #[str (sealM x.text),int 0]):=by
 have hck:=bnCheck_spec hx
 have hd:=Bn.d_len hx
 have hte:=vaText_spec (t:=magB) (by decide)
 rw [x.pre_zero] at hte
 have hbl:=blNone_spec
 have hpt:=vaText_spec (t:=x.d) (by omega)
 have hnm:=fun b=>bnNums_spec b
 have hl10:=x.pre_len 10
 have hl0:=x.pre_len 0
 have hv0:=vInt_len 0
 have hvt:=vText_len x.d
 have hvd:=vInt_len x.d.length
 have hse:=veSeal_spec (t:=x.pre 10 ++ vInt 0 ++ vText x.d) (by rw [List.length_append,List.length_append]; omega)
 rw [← x.pre_ten]
 refine spec_in (cap:=[]) Tryz.func9 rfl rfl Tryz.ntmps9 rfl envZ (fun N β=>?_)
 refine Aa ?_;refine A9 (BK rfl) rfl rfl rfl ?_;rintro _ _ ⟨b2,rfl,rfl⟩;refine AZ (ρ:=sng b2 (.cells #[int (x.a:Int),int (x.c:Int),int 7,int (x.o:Int),int (x.t:Int),int 1,int (x.n:Int),int (x.l:Int),int 1,int 4,.slice none 0 0,str x.d] 34 (0,0))) takeZ ?_
 have bx49_3:=rdB b2 34 [int (x.a:Int),int (x.c:Int),int 7,int (x.o:Int),int (x.t:Int),int 1,int (x.n:Int),int (x.l:Int),int 1,int 4,.slice none 0 0,str x.d]
 have c0:=rdC bx49_3 0
 have c1:=rdC bx49_3 1
 have c2:=rdC bx49_3 2
 have c3:=rdC bx49_3 3
 have c4:=rdC bx49_3 4
 have c5:=rdC bx49_3 5
 have c6:=rdC bx49_3 6
 have c7:=rdC bx49_3 7
 have c8:=rdC bx49_3 8
 have c9:=rdC bx49_3 9
 have c10:=rdC bx49_3 10
 have c11:=rdC bx49_3 11
 have cw:=rdB b2 34 [int (x.a:Int),int (x.c:Int),int 7,int (x.o:Int),int (x.t:Int),int 1,int (x.n:Int),int (x.l:Int),int 1,int 4,.slice none 0 0,str x.d]
 refine AC ?_;refine Abt ?_;refine AL hck rfl rfl rdZ rfl rfl ?_;rintro _ rfl;refine Aai ?_;refine Ab9 ?_;refine Aa ?_;refine AL hte rfl rfl rdZ rfl rfl ?_;rintro _ rfl;refine Aby ?_
 refine A9 (FA rfl rfl rfl rfl (by simp only [maxLen]; omega)) rfl rfl rfl ?_
 rintro u0 _ ⟨ρ0,hO0,rfl⟩
 have hu0:=hO0.one
 refine Aag ?_;refine Aa ?_;refine AL (hnm b2) rfl rfl rdZ rfl rfl ?_;rintro _ rfl;refine Abc ?_
 refine BQ [27,1] (X:=Nat × Value × PH) (0,u0,ρ0) (fun z=>z.1≤10∧OwnB 5 z.2.1 (x.pre z.1) z.2.2) (fun z=>[(28,int (z.1:Int)),(7,z.2.1)]) (fun z=>[z.2.2]) (fun z=>10-z.1) pickZ ⟨Nat.zero_le _,hO0⟩ covZ selZ ?_
 rintro ⟨j,u,ρ⟩ ⟨hj,hO⟩
 dsimp only at hj hO ⊢
 have hu:=hO.one
 by_cases hlt:j<10
 rotate_left
 ·have hj9:j=10:=by omega
  subst hj9
  obtain ⟨bb,cap,rfl,hcap,hrd⟩:=hO.rd
  refine Abd ?_;refine Aak ?_;refine AL hbl rfl rfl rdZ rfl rfl ?_;rintro _ rfl;refine Aa2 ?_;refine Aaa ?_;refine Aak ?_;refine AL hpt rfl rfl rdZ rfl rfl ?_;rintro _ rfl;refine Aby ?_
  focus ((refine BB (CW (l:=x.pre 10) rfl (cellsH hrd memZ) rfl rfl rfl) rfl rfl rfl ?_))
  refine AB ?_
  focus ((refine BB (DS rfl rfl (by omega)) rfl rfl rfl ?_))
  refine AB ?_
  focus ((refine BB (DS rfl rfl (by rw [List.length_append]; omega)) rfl rfl rfl ?_))
  refine AL hse rfl rfl rdZ rfl rfl ?_;rintro _ rfl;refine Aap ?_;refine Abf ?_;exact AP (res2 rfl rfl rfl) rsubZ selZ ⟨rfl,rfl⟩
 obtain ⟨n,hn⟩:=x.num_at hlt
 have hiv:=vaInt_spec (n:=n) (by have:=Bn.num_le hx hn; omega)
 have hnx:=x.pre_next hn
 have hl1:=x.pre_len j
 have hl2:=vInt_len n
 have hat:=ptAt b2 hlt
 have hcell:=bnAt (b2:=b2) hn
 refine Ac ?_;refine Aa ?_
 focus ((refine BB (ER rfl rfl rfl rfl rfl hlt hat) rfl rfl rfl ?_))
 refine Aai ?_;refine AU ?_;refine AG ?_;refine AL hiv rfl rfl rdZ rfl rfl ?_;rintro _ rfl;refine Aa2 ?_;refine Aaa ?_;refine AA ?_;refine Aan ?_
 refine A9 (ES rfl rfl rfl rfl rfl rfl rfl hO takeZ (by omega)) rfl rfl rfl ?_
 rintro u1 _ ⟨ρ1,hO1,rfl⟩;rw [hnx] at hO1
 have hu1:=hO1.one
 refine Aaa ?_;refine Abl ?_
 exact BJ (j+1,u1,ρ1) ⟨by dsimp only; omega,hO1⟩ (by dsimp only; omega) covZ selZ
theorem blRead_spec {s tl:List UInt8} (hs:s=vInt 0 ++ tl) (hl:s.length≤1000000):Ans Tryz.prog (fv 59) [str s] [] (fun r=>r=.tuple #[.slice none 0 0,int ((vInt 0).length:Int),int 0]):=by
 have hi:=vaReadInt_spec (n:=0) (by omega) hs (by omega)
 refine spec_in (cap:=[]) Tryz.func59 rfl rfl Tryz.ntmps59 rfl envZ (fun N β=>?_)
 refine Abi ?_;refine AC ?_;refine Aai ?_;refine AL hi rfl rfl rdZ rfl rfl ?_;rintro _ rfl;refine Acd ?_;refine Aam ?_;refine Aba ?_;refine Aab ?_;refine BM ?_;refine Aan ?_;refine BZ ?_;refine Aao ?_;refine Ab3 ?_;refine Abc ?_
 refine BQ [8,6,27] (X:=Unit) () (fun _=>True) (fun _=>[(28,int 0)]) (fun _=>[]) (fun _=>0) pickZ trivial covZ Sel.refl ?_
 rintro ⟨⟩ -;refine Abd ?_;refine Aca ?_;refine AC ?_;refine Abf ?_;exact AP (res3 rfl rfl rfl rfl) rsubZ selZ ⟨rfl,rfl⟩
theorem bnRest_spec {s:List UInt8} {p:Nat} (bd:Nat) (h:p≤s.length):Ans Tryz.prog (fv 32) [.pointer (some ⟨bd,0,none⟩)] [sng bd (.cells #[str s,int (p:Int),.bool false] 89 (0,0))] (fun r=>r=str (s.drop p)):=by
 have bx81_3:=rdB bd 89 [str s,int (p:Int),.bool false]
 have d0:=rdC bx81_3 0
 have d1:=rdC bx81_3 1
 have d2:=rdC bx81_3 2
 refine spec_in (cap:=[]) Tryz.func32 rfl rfl Tryz.ntmps32 rfl envZ (fun N β=>?_)
 refine Aa ?_;refine Aag ?_
 refine BH (.q 0 (.q 1 (.q 2 (.q 3 (.q 4 (.q 5 (.q 6 (.q 7 (.q 8 (.q 9 .nil)))))))))) [] rfl (by kernel_rfl) selZ ?_
 refine Ab2 ?_
 focus ((refine BR rfl (EJ rfl rfl rfl (by omega)) rfl rfl rfl rfl ?_))
 refine Abn ?_
 skip
 exact A2 ⟨rfl,rfl⟩
theorem bnPass_spec {s:List UInt8} {p k:Nat} (bd:Nat) (h:p+k≤1000000):Eng.Spec Tryz.prog (fv 58) [.pointer (some ⟨bd,0,none⟩),int (k:Int),int 0] [] [sng bd (.cells #[str s,int (p:Int),.bool false] 89 (0,0))] (fun _ H'=>H'=[sng bd (.cells #[str s,int ((p+k:Nat):Int),.bool false] 89 (0,0))]):=by
 have e1:(p:Int)+(k:Int)=((p+k:Nat):Int):=by omega
 refine spec_in (cap:=[]) Tryz.func58 rfl rfl Tryz.ntmps58 rfl envZ (fun N β=>?_)
 refine Aca ?_;refine Aa5 ?_;refine Aan ?_;refine A5 ?_;refine AK ?_;refine Abj ?_;refine A6 ?_; rintro _ _ ⟨rfl,rfl⟩;refine Abb ?_;refine Aa5 ?_;refine AY ?_;refine Aau ?_;refine Ab7 ?_;refine AU ?_;refine Aay ?_;refine AB ?_;refine CG ?_;refine Abj ?_;refine AF ?_
 focus ((rw [e1]))
 refine A6 ?_; rintro _ _ ⟨rfl,rfl⟩;refine AE ?_;exact CC (H':=[sng bd (.cells #[str s,int ((p+k:Nat):Int),.bool false] 89 (0,0))]) (res0 rfl) rsubZ selZ rfl
theorem bnText_spec {s tl:List UInt8} {p:Nat} {t:List UInt8} (bd:Nat) (hn:t.length≤65536) (hs:s.drop p=vText t ++ tl) (hl:s.length≤500000):Eng.Spec Tryz.prog (fv 29) [.pointer (some ⟨bd,0,none⟩)] [] [sng bd (.cells #[str s,int (p:Int),.bool false] 89 (0,0))] (fun r H'=>r=str t∧H'=[sng bd (.cells #[str s,int ((p+(vText t).length:Nat):Int),.bool false] 89 (0,0))]):=by
 have hlen:=congrArg List.length hs
 rw [List.length_drop,List.length_append] at hlen
 have hpos:1≤(vText t).length:=by rw [vText_len]; have:=vInt_pos t.length; omega
 have hre:=bnRest_spec (s:=s) (p:=p) bd (by omega)
 have hrd:=vaReadText_spec (s:=s.drop p) (t:=t) (tl:=tl) (by omega) hs (by rw [List.length_drop]; omega)
 have hpa:=bnPass_spec (s:=s) (p:=p) (k:=(vText t).length) bd (by omega)
 generalize (vText t).length=K at *
 refine spec_in (cap:=[]) Tryz.func29 rfl rfl Tryz.ntmps29 rfl envZ (fun N β=>?_)
 refine Abu ?_;refine Abj ?_;refine AL hre rfl rfl rdZ rfl rfl ?_;rintro _ rfl
 skip
 refine AL hrd rfl rfl rdZ rfl rfl ?_;rintro _ rfl;refine Acd ?_;refine Aai ?_;refine Aan ?_;refine BF hpa rfl rfl takesZ rdZ rfl rfl ?_;rintro _ _ rfl;refine Abb ?_;refine Aaa ?_;exact AP (H':=[sng bd (.cells #[str s,int ((p+K:Nat):Int),.bool false] 89 (0,0))]) (res1 rfl rfl) rsubZ selZ ⟨rfl,rfl⟩
theorem bnInt_spec {s tl:List UInt8} {p n:Nat} (bd:Nat) (hn:n≤1099511627776) (hs:s.drop p=vInt n ++ tl) (hl:s.length≤500000):Eng.Spec Tryz.prog (fv 30) [.pointer (some ⟨bd,0,none⟩)] [] [sng bd (.cells #[str s,int (p:Int),.bool false] 89 (0,0))] (fun r H'=>r=int (n:Int)∧H'=[sng bd (.cells #[str s,int ((p+(vInt n).length:Nat):Int),.bool false] 89 (0,0))]):=by
 have hlen:=congrArg List.length hs
 rw [List.length_drop,List.length_append] at hlen
 have hpos:1≤(vInt n).length:=vInt_pos n
 have hre:=bnRest_spec (s:=s) (p:=p) bd (by omega)
 have hrd:=vaReadInt_spec (s:=s.drop p) (n:=n) (tl:=tl) (by omega) hs (by rw [List.length_drop]; omega)
 have hpa:=bnPass_spec (s:=s) (p:=p) (k:=(vInt n).length) bd (by omega)
 generalize (vInt n).length=K at *
 refine spec_in (cap:=[]) Tryz.func30 rfl rfl Tryz.ntmps30 rfl envZ (fun N β=>?_)
 refine Abu ?_;refine Abj ?_;refine AL hre rfl rfl rdZ rfl rfl ?_;rintro _ rfl
 skip
 refine AL hrd rfl rfl rdZ rfl rfl ?_;rintro _ rfl;refine Acd ?_;refine Aai ?_;refine Aan ?_;refine BF hpa rfl rfl takesZ rdZ rfl rfl ?_;rintro _ _ rfl;refine Abb ?_;refine Aaa ?_;exact AP (H':=[sng bd (.cells #[str s,int ((p+K:Nat):Int),.bool false] 89 (0,0))]) (res1 rfl rfl) rsubZ selZ ⟨rfl,rfl⟩
theorem bnBls_spec {s tl:List UInt8} {p:Nat} (bd:Nat) (hn:True) (hs:s.drop p=vInt 0 ++ tl) (hl:s.length≤500000):Eng.Spec Tryz.prog (fv 31) [.pointer (some ⟨bd,0,none⟩)] [] [sng bd (.cells #[str s,int (p:Int),.bool false] 89 (0,0))] (fun r H'=>r=.slice none 0 0∧H'=[sng bd (.cells #[str s,int ((p+(vInt 0).length:Nat):Int),.bool false] 89 (0,0))]):=by
 have hlen:=congrArg List.length hs
 rw [List.length_drop,List.length_append] at hlen
 have hpos:1≤(vInt 0).length:=vInt_pos 0
 have hre:=bnRest_spec (s:=s) (p:=p) bd (by omega)
 have hrd:=blRead_spec (s:=s.drop p) (tl:=tl) hs (by rw [List.length_drop]; omega)
 have hpa:=bnPass_spec (s:=s) (p:=p) (k:=(vInt 0).length) bd (by omega)
 generalize (vInt 0).length=K at *
 refine spec_in (cap:=[]) Tryz.func31 rfl rfl Tryz.ntmps31 rfl envZ (fun N β=>?_)
 refine Abu ?_;refine Abj ?_;refine AL hre rfl rfl rdZ rfl rfl ?_;rintro _ rfl
 skip
 refine AL hrd rfl rfl rdZ rfl rfl ?_;rintro _ rfl;refine Acd ?_;refine Aai ?_;refine Aan ?_;refine BF hpa rfl rfl takesZ rdZ rfl rfl ?_;rintro _ _ rfl;refine Abb ?_;refine Aaa ?_;exact AP (H':=[sng bd (.cells #[str s,int ((p+K:Nat):Int),.bool false] 89 (0,0))]) (res1 rfl rfl) rsubZ selZ ⟨rfl,rfl⟩
theorem bnNe:(!(magB == [77,66,49]))=false:=rfl
theorem bnDecode_spec {x:Bn} (hx:x.ok):Ans Tryz.prog (fv 10) [str (sealM x.text)] [] (fun r=>r=.tuple #[.agg #[int (x.a:Int),int (x.c:Int),int 7,int (x.o:Int),int (x.t:Int),int 1,int (x.n:Int),int (x.l:Int),int 1,int 4,.slice none 0 0,str x.d],int 0]):=by
 have hck:=bnCheck_spec hx
 have htl:=Bn.text_len hx
 have hsl:(sealM x.text).length≤4300:=by
  have h1:=vText_len x.text
  have h2:=vInt_len x.text.length
  unfold sealM;rw [List.length_append,h1]
  show _+4≤4300
  omega
 have hop:=veOpen_spec (s:=sealM x.text) (t:=x.text) (tl:=[]) (by omega) (List.append_nil _).symm (by omega)
 have hnm:=fun b=>bnNums_spec b
 have hd:=Bn.d_len hx
 have hmg:=fun bd=>bnText_spec (t:=magB) bd (by decide) x.drop_mag.1 (by omega)
 simp only [x.drop_mag.2] at hmg
 have hnu:∀ j n:Nat,x.nums[j]?=some n→∀ bd,Eng.Spec Tryz.prog (fv 30) [.pointer (some ⟨bd,0,none⟩)] [] [sng bd (.cells #[str x.text,int ((x.pre j).length:Int),.bool false] 89 (0,0))] (fun r H'=>r=int (n:Int)∧H'=[sng bd (.cells #[str x.text,int ((x.pre (j+1)).length:Int),.bool false] 89 (0,0))]):=fun j n hn bd=>by
  have h:=bnInt_spec bd (by have:=Bn.num_le hx hn; omega) (x.drop_at hn).1 (by omega)
  simp only [(x.drop_at hn).2] at h;exact h
 have hbl:=fun bd=>bnBls_spec bd trivial x.drop_ten (by omega)
 have hdd:=fun bd=>bnText_spec (t:=x.d) bd (by omega) x.drop_d (by omega)
 have hre:=fun bd=>bnRest_spec (s:=x.text) bd (Nat.le_of_eq x.len_end)
 simp only [x.drop_end] at hre
 obtain ⟨P,hP⟩:∃ P:Nat→Nat,∀ j,(x.pre j).length=P j:=⟨_,fun _=>rfl⟩
 simp only [hP] at hmg hnu hbl hdd hre
 generalize (vInt 0).length=V0 at *
 generalize (vText x.d).length=VD at *
 generalize hT:x.text=T at *
 generalize hS:sealM T=S at *
 refine spec_in (cap:=[]) Tryz.func10 rfl rfl Tryz.ntmps10 rfl envZ (fun N β=>?_)
 refine Aa ?_;refine A9 (BP rfl) rfl rfl rfl ?_;rintro _ _ ⟨b2,rfl,rfl⟩;refine Aai ?_;refine AL hop rfl rfl rdZ rfl rfl ?_;rintro _ rfl;refine Acd ?_;refine Aam ?_;refine Ab9 ?_;refine Aab ?_;refine B0 ?_
 focus ((refine BB (A8 (out:=[str T,int 0,.bool false]) rfl rfl rfl rfl rfl) rfl rfl rfl ?_))
 refine CJ ?_; rintro _ _ ⟨b,rfl,rfl⟩;refine Aaa ?_;refine Aa ?_;refine BG ?_; rintro _ _ ⟨b,rfl,rfl⟩;refine Abx ?_
 revert b; intro b8
 revert b; intro bd
 refine BF (hmg bd) rfl rfl takesZ rdZ rfl rfl ?_;rintro _ _ ⟨rfl,rfl⟩
 focus ((refine' BB _ rfl rfl rfl _; rotate_left; (apply EB; exact rfl; exact rfl)))
 refine Abw ?_
 focus ((refine' BB _ rfl rfl rfl _; rotate_left; (apply BW; exact rfl; exact rfl)))
 refine Abs ?_;refine AD ?_;refine Aa ?_;rw [bnNe]
 skip
 refine AL (hnm b8) rfl rfl rdZ rfl rfl ?_;rintro _ rfl;refine Abc ?_
 refine BQ [7,8,35,2,3] (X:=Nat) 0 (fun j=>j≤10) (fun j=>[(36,int (j:Int))]) (fun j=>[sng bd (.cells #[str T,int (P j:Int),.bool false] 89 (0,0)),sng b8 (.cells (fillR x.nums j ++ [.slice none 0 0,str []]).toArray 34 (0,0)),sng b2 (.cells #[int 0,int 0,int 0,int 0,int 0,int 0,int 0,int 0,int 0,int 0,.slice none 0 0,str []] 34 (0,0))]) (fun j=>10-j) pickZ (Nat.zero_le _) covZ selZ ?_
 rintro j hj
 by_cases hlt:j<10
 ·obtain ⟨n,hn⟩:=x.num_at hlt
  have hat:=ptAt b8 hlt
  have hnb:=hnu j n hn bd
  have hfs:=fillR_setA [.slice none 0 0,str []] hn
  refine Ac ?_;refine Aa ?_
  focus ((refine BB (ER rfl rfl rfl rfl rfl hlt hat) rfl rfl rfl ?_))
  refine Aaa ?_;refine AA ?_;refine Aan ?_;refine BF hnb rfl rfl takesZ rdZ rfl rfl ?_;rintro _ _ ⟨rfl,rfl⟩;refine AU ?_
  focus ((refine B4 (DH rfl rfl rfl rfl takeZ (by rw [List.size_toArray,List.length_append,fillR_len (by show j≤10; exact hj)]; show j<12; omega)) rfl rfl ?_; rintro _ _ ⟨rfl,rfl⟩))
  refine AE ?_;refine Abl ?_;rw [hfs]
  exact BJ (j+1) (by omega) (by omega) covZ selZ
 have hj9:j=10:=by omega
 subst hj9
 change JK _ _ _ (_::sng b8 (.cells #[int (x.a:Int),int (x.c:Int),int 7,int (x.o:Int),int (x.t:Int),int 1,int (x.n:Int),int (x.l:Int),int 1,int 4,.slice none 0 0,str []] 34 (0,0))::_) _ _
 refine Abd ?_;refine Aab ?_;refine BF (hbl bd) rfl rfl takesZ rdZ rfl rfl ?_;rintro _ _ ⟨rfl,rfl⟩;refine AF ?_;refine A6 ?_; rintro _ _ ⟨rfl,rfl⟩;refine Abb ?_;refine BF (hdd bd) rfl rfl takesZ rdZ rfl rfl ?_;rintro _ _ ⟨rfl,rfl⟩;refine AF ?_;refine A6 ?_; rintro _ _ ⟨rfl,rfl⟩;refine Abx ?_;refine Aa5 ?_;refine Aan ?_;refine Abj ?_;refine AL (hre bd) rfl rfl rdZ rfl rfl ?_;rintro _ rfl
 focus ((refine' BB _ rfl rfl rfl _; rotate_left; (apply EB; exact rfl; exact rfl)))
 refine Abo ?_;refine AR ?_
 focus ((rw [rpNe0]))
 refine AL hck rfl rfl rdZ rfl rfl ?_;rintro _ rfl;refine Abs ?_;refine Aat ?_;refine A4 ?_; rintro _ _ ⟨rfl,rfl⟩;refine Aaa ?_;exact AP (resSE (b1:=b2) (T:=34) (v1:=[int (x.a:Int),int (x.c:Int),int 7,int (x.o:Int),int (x.t:Int),int 1,int (x.n:Int),int (x.l:Int),int 1,int 4,.slice none 0 0,str x.d]) rfl rfl rfl rfl rfl (cells_own memZ)) rsubZ selZ ⟨rfl,rfl⟩
end Go.Proofs.YtjopknnkcnehmaaGreatDoor
namespace Go.Eng
variable {C : Cx} {R H : List PH} {L : Env} {x y : Operand} {t yT : TypeId} {dst : Option Tmp} {ty : TypeId} {pos : String} {aft : Array Edge} {g : Option (Nat × Bool)}
def fldR (P : Program) (m : Nat) (f : Field) : Bool := f.name != "_" && (match P.underlying f.type with
  | some (.int .i64) => Nat.blt f.offset m
  | some (.struct fs) => intsP P f.type fs.size && (szP P f.type == some fs.size) && Nat.ble (f.offset + fs.size) m && !P.stoodInHeld f.type
  | _ => false)
def nestP (P : Program) (t : TypeId) (m : Nat) : Bool := match P.underlying t with
  | some (.struct fs) => fs.toList.all (fldR P m)
  | _ => false
theorem run_eqIntsK {P : Program} (w : World) (k : Nat) {l m : List Int} {n : Nat} (hi : intsP P t n = true) (hp : P.stoodInHeld t = false) (hl : l.length = n) (hm : m.length = n) : (Op.equalIn (k + 2) t (.agg (l.map int).toArray) (.agg (m.map int).toArray)).run P w = .ok (decide (l = m)) w := by
  obtain ⟨fs, hu, hs, hf⟩ := intsP_of hi
  have hfo : P.fieldsOf t = fs := by simp [Program.fieldsOf, hu]
  have h1 := run_equalIn_struct (P := P) w (k + 1) t (l.map int).toArray (m.map int).toArray (by rw [hfo]; exact hu) hp
  have h2 := eqFields_ints (P := P) w k l m fs.toList 0 hf (by simp [hs, hl]) (by omega)
  rw [hfo] at h1
  rw [show k + 2 = k + 1 + 1 from rfl, h1, h2]; simp
theorem eqFields_nest {P : Program} (w : World) (d : Nat) (l : List Int) : ∀ (fs : List Field), fs.all (fldR P l.length) = true →
    (Op.eqFields (d + 2) (l.map int).toArray (l.map int).toArray fs).run P w = .ok true w
  | [], _ => by simp [Op.eqFields]
  | f :: fs, h => by
    rw [List.all_cons, Bool.and_eq_true] at h
    obtain ⟨hf, h⟩ := h
    have ih := eqFields_nest w d l fs h
    unfold fldR at hf;simp only [Bool.and_eq_true, bne_iff_ne, ne_eq] at hf
    obtain ⟨h3, h5⟩ := hf
    split at h5
    · rename_i hu
      have hk : f.offset < l.length := by simpa using h5
      have hag : aggP P f.type = some false := by simp [aggP, hu]
      have hp : (part f.type (l.map int).toArray f.offset).run P w = .ok (int l[f.offset]) w := by simp [part, run_isAgg hag, hk]
      have he := run_equalIn_int (P := P) w (d + 1) f.type .i64 .i64 l[f.offset] l[f.offset] hu
      simp only [Op.eqFields, h3, not_false_eq_true, if_true, Sem.run_bind, hp, Result.andThen_ok, he, ne_eq, beq_self_eq_true, Bool.not_true, Bool.false_eq_true, if_false, ih]
    · rename_i gs hu
      simp only [Bool.and_eq_true, beq_iff_eq, Bool.not_eq_true'] at h5
      obtain ⟨⟨⟨h6, h7⟩, h8⟩, h9⟩ := h5
      have hk : f.offset + gs.size ≤ l.length := by simpa using h8
      have hag : aggP P f.type = some true := by simp [aggP, hu]
      have hsub : (l.map int).toArray.extract f.offset (f.offset + gs.size) = (((l.drop f.offset).take gs.size).map int).toArray := by
        apply Array.ext'
        simp [List.extract_eq_take_drop, List.map_take, List.map_drop]
      have hp : (part f.type (l.map int).toArray f.offset).run P w = .ok (.agg (((l.drop f.offset).take gs.size).map int).toArray) w := by
        rw [← hsub]
        simp [part, run_isAgg hag, run_sizeOf h7]
      have he := run_eqIntsK (t := f.type) (P := P) w d (l := (l.drop f.offset).take gs.size) (m := (l.drop f.offset).take gs.size) h6 h9 (by rw [List.length_take, List.length_drop]; omega) (by rw [List.length_take, List.length_drop]; omega)
      simp only [Op.eqFields, h3, not_false_eq_true, if_true, Sem.run_bind, hp, Result.andThen_ok, he, ne_eq, decide_true, Bool.not_true, Bool.false_eq_true, if_false, ih]
    · simp at h5
theorem run_eqNest {P : Program} (w : World) {l : List Int} (hi : nestP P t l.length = true) (hp : P.stoodInHeld t = false) : (Op.equalIn 10000 t (.agg (l.map int).toArray) (.agg (l.map int).toArray)).run P w = .ok true w := by
  unfold nestP at hi
  split at hi
  · rename_i fs hu
    have hfo : P.fieldsOf t = fs := by simp [Program.fieldsOf, hu]
    have h1 := run_equalIn_struct (P := P) w 9999 t (l.map int).toArray (l.map int).toArray (by rw [hfo]; exact hu) hp
    have h2 := eqFields_nest (P := P) w 9997 l fs.toList hi
    rw [hfo] at h1;simp only [Nat.reduceAdd] at h1 h2;rw [h1, h2]
  · simp at hi
theorem q_eqN (l : List Int) {n : Nat} (h1 : evalE L x = some (.agg (l.map int).toArray)) (h2 : evalE L y = some (.agg (l.map int).toArray)) (hl : l.length = n) (hi : nestP C.P t n = true) (hp : C.P.stoodInHeld t = false) (hg : C.P.eqGuardType C.P.depth t = false) :
    Quiet C R H L ⟨dst, .binOp .eql t x y yT, ty, pos, aft, g⟩ (.bool true) :=
  ⟨by intro c; simp, fun ac w hx _ => by
    have e1 := hx x (by simp [Op.operands]) _ h1
    have e2 := hx y (by simp [Op.operands]) _ h2
    subst hl
    have h3 := run_eql_struct (P := C.P) w t (l.map int).toArray (l.map int).toArray
    rw [run_eqNest w hi hp] at h3
    have h4 := run_eqGuard_agg (P := C.P) w .eql t x y (l.map int).toArray (l.map int).toArray hg
    simp [execOp, e1, e2, h3, h4]⟩
theorem FS (l : List Int) {n : Nat} (h1 : evalE L x = some (.agg (l.map int).toArray)) (h2 : evalE L y = some (.agg (l.map int).toArray)) (hl : l.length = n) (hi : nestP C.P t n = true) (hp : C.P.stoodInHeld t = false) (hg : C.P.eqGuardType C.P.depth t = false) :
    Quiet C R H L ⟨dst, .binOp .neq t x y yT, ty, pos, aft, g⟩ (.bool false) :=
  ⟨by intro c; simp, fun ac w hx _ => by
    have e1 := hx x (by simp [Op.operands]) _ h1
    have e2 := hx y (by simp [Op.operands]) _ h2
    subst hl
    have h3 := run_neq_struct (P := C.P) w t (l.map int).toArray (l.map int).toArray
    rw [run_eqNest w hi hp] at h3
    have h4 := run_eqGuard_agg (P := C.P) w .neq t x y (l.map int).toArray (l.map int).toArray hg
    simp [execOp, e1, e2, h3, h4]⟩
theorem ET {xT : TypeId} {k : IntKind} {a b : Int} {c : Nat} (h1 : evalE L x = some (.int k a)) (h2 : evalE L y = some (.int k b)) (hc : (BitVec.ofInt k.bits a &&& ~~~BitVec.ofInt k.bits b).toNat = c) (hw : k.wrap (c : Int) = c) :
    Quiet C R H L ⟨dst, .binOp .andNot xT x y yT, ty, pos, aft, g⟩ (.int k (c : Int)) :=
  ⟨by intro c; simp, fun w' w hx _ => by
    have e1 := hx x (by simp [Op.operands]) _ h1
    have e2 := hx y (by simp [Op.operands]) _ h2
    simp only [execOp, e1, e2, eqGuard];simp only [binOp, Op.intBits, hc, hw]
    simp⟩
end Go.Eng
namespace Go.Proofs.YtjopknnkcnehmaaGreatDoor
open Go.Eng Go.Step
set_option maxRecDepth 100000
set_option maxHeartbeats 64000000
theorem fgSpan_spec {x:Bn} (hx:x.ok):Ans Tryz.prog (fv 21) [.agg #[int (x.a:Int),int (x.c:Int),int 7,int (x.o:Int),int (x.t:Int),int 1,int (x.n:Int),int (x.l:Int),int 1,int 4,.slice none 0 0,str x.d]] [] (fun r=>r=.agg #[int (x.o:Int),int ((x.o+x.d.length:Nat):Int)]):=by
 have hd:=Bn.d_len hx
 unfold Bn.ok at hx
 have e1:(x.o:Int)+(x.d.length:Int)=((x.o+x.d.length:Nat):Int):=by omega
 refine spec_in (cap:=[]) Tryz.func21 rfl rfl Tryz.ntmps21 rfl envZ (fun N β=>?_)
 refine Aa ?_;refine A9 (BK rfl) rfl rfl rfl ?_;rintro _ _ ⟨b2,rfl,rfl⟩;refine AZ (ρ:=sng b2 (.cells #[int (x.a:Int),int (x.c:Int),int 7,int (x.o:Int),int (x.t:Int),int 1,int (x.n:Int),int (x.l:Int),int 1,int 4,.slice none 0 0,str x.d] 34 (0,0))) takeZ ?_
 have bx22_3:=rdB b2 34 [int (x.a:Int),int (x.c:Int),int 7,int (x.o:Int),int (x.t:Int),int 1,int (x.n:Int),int (x.l:Int),int 1,int 4,.slice none 0 0,str x.d]
 have c0:=rdC bx22_3 0
 have c1:=rdC bx22_3 1
 have c2:=rdC bx22_3 2
 have c3:=rdC bx22_3 3
 have c4:=rdC bx22_3 4
 have c5:=rdC bx22_3 5
 have c6:=rdC bx22_3 6
 have c7:=rdC bx22_3 7
 have c8:=rdC bx22_3 8
 have c9:=rdC bx22_3 9
 have c10:=rdC bx22_3 10
 have c11:=rdC bx22_3 11
 refine A9 (BP rfl) rfl rfl rfl ?_;rintro _ _ ⟨b3,rfl,rfl⟩;refine AE ?_;refine Abr ?_;refine Aay ?_;refine Aac ?_
 focus ((refine' BB _ rfl rfl rfl _; rotate_left; (apply BW; exact rfl; exact rfl)))
 refine CG ?_;refine B0 ?_
 focus ((rw [e1]))
 refine A4 ?_; rintro _ _ ⟨rfl,rfl⟩;refine AE ?_;exact AP (resS1 (b1:=b3) (v1:=[int (x.o:Int),int ((x.o+x.d.length:Nat):Int)]) rfl rfl rfl rfl (cells_own memZ)) rsubZ selZ ⟨rfl,rfl⟩
theorem rsSpan_spec {x:Bn} (hx:x.ok):Ans Tryz.prog (fv 61) [.agg #[int (x.a:Int),int (x.c:Int),int 7,int (x.o:Int),int (x.t:Int),int 1,int (x.n:Int),int (x.l:Int),int 1,int 4,.slice none 0 0,str x.d]] [] (fun r=>r=.agg #[int (x.o:Int),int ((x.o+x.d.length:Nat):Int)]):=by
 have hd:=Bn.d_len hx
 unfold Bn.ok at hx
 have e1:(x.o:Int)+(x.d.length:Int)=((x.o+x.d.length:Nat):Int):=by omega
 refine spec_in (cap:=[]) Tryz.func61 rfl rfl Tryz.ntmps61 rfl envZ (fun N β=>?_)
 refine Aa ?_;refine A9 (BK rfl) rfl rfl rfl ?_;rintro _ _ ⟨b2,rfl,rfl⟩;refine AZ (ρ:=sng b2 (.cells #[int (x.a:Int),int (x.c:Int),int 7,int (x.o:Int),int (x.t:Int),int 1,int (x.n:Int),int (x.l:Int),int 1,int 4,.slice none 0 0,str x.d] 34 (0,0))) takeZ ?_
 have bx64_3:=rdB b2 34 [int (x.a:Int),int (x.c:Int),int 7,int (x.o:Int),int (x.t:Int),int 1,int (x.n:Int),int (x.l:Int),int 1,int 4,.slice none 0 0,str x.d]
 have c0:=rdC bx64_3 0
 have c1:=rdC bx64_3 1
 have c2:=rdC bx64_3 2
 have c3:=rdC bx64_3 3
 have c4:=rdC bx64_3 4
 have c5:=rdC bx64_3 5
 have c6:=rdC bx64_3 6
 have c7:=rdC bx64_3 7
 have c8:=rdC bx64_3 8
 have c9:=rdC bx64_3 9
 have c10:=rdC bx64_3 10
 have c11:=rdC bx64_3 11
 refine A9 (BP rfl) rfl rfl rfl ?_;rintro _ _ ⟨b3,rfl,rfl⟩;refine AE ?_;refine Abr ?_;refine Aay ?_;refine Aac ?_
 focus ((refine' BB _ rfl rfl rfl _; rotate_left; (apply BW; exact rfl; exact rfl)))
 refine CG ?_;refine B0 ?_
 focus ((rw [e1]))
 refine A4 ?_; rintro _ _ ⟨rfl,rfl⟩;refine AE ?_;exact AP (resS1 (b1:=b3) (v1:=[int (x.o:Int),int ((x.o+x.d.length:Nat):Int)]) rfl rfl rfl rfl (cells_own memZ)) rsubZ selZ ⟨rfl,rfl⟩
theorem fgCuttable_spec {x:Bn} (h:1≤x.d.length):Ans Tryz.prog (fv 20) [.agg #[int (x.a:Int),int (x.c:Int),int 7,int (x.o:Int),int (x.t:Int),int 1,int (x.n:Int),int (x.l:Int),int 1,int 4,.slice none 0 0,str x.d]] [] (fun r=>r=int 0):=by
 have hne:(x.d == [])=false:=by
  cases hd:x.d with
  | nil=>rw [hd] at h; simp at h
  | cons a l=>rfl
 refine spec_in (cap:=[]) Tryz.func20 rfl rfl Tryz.ntmps20 rfl envZ (fun N β=>?_)
 refine Aa ?_;refine A9 (BK rfl) rfl rfl rfl ?_;rintro _ _ ⟨b2,rfl,rfl⟩;refine AZ (ρ:=sng b2 (.cells #[int (x.a:Int),int (x.c:Int),int 7,int (x.o:Int),int (x.t:Int),int 1,int (x.n:Int),int (x.l:Int),int 1,int 4,.slice none 0 0,str x.d] 34 (0,0))) takeZ ?_
 have bx107_3:=rdB b2 34 [int (x.a:Int),int (x.c:Int),int 7,int (x.o:Int),int (x.t:Int),int 1,int (x.n:Int),int (x.l:Int),int 1,int 4,.slice none 0 0,str x.d]
 have c0:=rdC bx107_3 0
 have c1:=rdC bx107_3 1
 have c2:=rdC bx107_3 2
 have c3:=rdC bx107_3 3
 have c4:=rdC bx107_3 4
 have c5:=rdC bx107_3 5
 have c6:=rdC bx107_3 6
 have c7:=rdC bx107_3 7
 have c8:=rdC bx107_3 8
 have c9:=rdC bx107_3 9
 have c10:=rdC bx107_3 10
 have c11:=rdC bx107_3 11
 refine Aag ?_;refine Aak ?_
 focus ((refine BB (CA (k:=.i64) (a:=4) (b:=2) (c:=0) rfl rfl (by decide) (by decide) rfl rfl) rfl rfl rfl ?_))
 refine Aba ?_;refine Aak ?_
 focus ((refine' BB _ rfl rfl rfl _; rotate_left; (apply q_eqT; exact rfl; exact rfl)))
 refine AE ?_
 focus ((rw [hne]))
 refine Aad ?_;refine Aaw ?_;exact A2 ⟨rfl,rfl⟩
theorem blClone_spec:Ans Tryz.prog (fv 49) [.slice none 0 0] [] (fun r=>r=.slice none 0 0):=by
 refine spec_in (cap:=[]) Tryz.func49 rfl rfl Tryz.ntmps49 rfl envZ (fun N β=>?_)
 refine Ab3 ?_
 focus ((refine' BB _ rfl rfl rfl _; rotate_left; (apply FG; exact rfl; exact rfl; exact rfl)))
 refine Aau ?_;refine Aaw ?_;exact A2 ⟨rfl,rfl⟩
theorem blIndex_spec (v:Value):Ans Tryz.prog (fv 92) [.slice none 0 0,v] [] (fun r=>r=int (-1)):=by
 refine spec_in (cap:=[]) Tryz.func92 rfl rfl Tryz.ntmps92 rfl envZ (fun N β=>?_)
 refine Ab3 ?_;refine Acf ?_
 refine BQ [0,1,4,7] (X:=Unit) () (fun _=>True) (fun _=>[(8,int 0)]) (fun _=>[]) (fun _=>0) pickZ trivial covZ Sel.refl ?_
 rintro ⟨⟩ -;refine Abd ?_;refine Aaw ?_;exact A2 ⟨rfl,rfl⟩
theorem blDelete_spec (v:Value):Ans Tryz.prog (fv 48) [.slice none 0 0,v] [] (fun r=>r=.slice none 0 0):=by
 have hi:=blIndex_spec v
 refine spec_in (cap:=[]) Tryz.func48 rfl rfl Tryz.ntmps48 rfl envZ (fun N β=>?_)
 refine Abu ?_;refine AB ?_;refine AL hi rfl rfl rdZ rfl rfl ?_;rintro _ rfl;refine Aam ?_;refine CN ?_;refine Aau ?_;refine Aab ?_;refine Aaa ?_;exact A2 ⟨rfl,rfl⟩
theorem fgCutIn_spec {x:Bn} (hd:x.d.length≤4096) (h0:x.o=0∧x.t=0) {i j:Nat} (hij:i<j) (hj:j≤x.d.length):Ans Tryz.prog (fv 22) [.agg #[int (x.a:Int),int (x.c:Int),int 7,int (x.o:Int),int (x.t:Int),int 1,int (x.n:Int),int (x.l:Int),int 1,int 4,.slice none 0 0,str x.d],int (i:Int),int (j:Int)] [] (fun r=>r=.agg #[int (x.a:Int),int (x.c:Int),int 7,int (i:Int),int (x.d.length:Int),int 1,int (x.n:Int),int (x.l:Int),int 1,int 4,.slice none 0 0,str ((x.d.drop i).take (j-i))]):=by
 obtain ⟨h1,h2⟩:=h0
 have e1:(i:Int)-(x.o:Int)=(i:Int):=by omega
 have e2:(j:Int)-(x.o:Int)=(j:Int):=by omega
 refine spec_in (cap:=[]) Tryz.func22 rfl rfl Tryz.ntmps22 rfl envZ (fun N β=>?_)
 refine Aa ?_;refine A9 (BK rfl) rfl rfl rfl ?_;rintro _ _ ⟨b3,rfl,rfl⟩;refine A9 (BP rfl) rfl rfl rfl ?_;rintro _ _ ⟨b6,rfl,rfl⟩;refine AE ?_;refine Abr ?_;refine Aag ?_;refine Abr ?_;refine CN ?_;refine Aau ?_;refine AA ?_;refine Aac ?_
 focus ((refine' BB _ rfl rfl rfl _; rotate_left; (apply BW; exact rfl; exact rfl)))
 refine AF ?_;refine AF ?_;refine A6 ?_; rintro _ _ ⟨rfl,rfl⟩;refine AE ?_;refine Aak ?_;refine Aan ?_;refine CR ?_;refine Aan ?_;refine CR ?_
 focus ((rw [e1]))
 focus ((rw [e2]))
 focus ((refine BB (D4 rfl rfl rfl rfl (by omega) (by omega)) rfl rfl rfl ?_))
 refine AF ?_;refine A6 ?_; rintro _ _ ⟨rfl,rfl⟩;refine Abb ?_;refine AF ?_;refine AF ?_;refine A6 ?_; rintro _ _ ⟨rfl,rfl⟩;refine Abx ?_
 by_cases hi0:i=0
 ·refine BZ ?_
  refine Aaf ?_;refine Aat ?_;refine A4 ?_; rintro _ _ ⟨rfl,rfl⟩;refine AE ?_;exact AP (resS1 (b1:=b6) (v1:=[int (x.a:Int),int (x.c:Int),int 7,int (i:Int),int (x.d.length:Int),int 1,int (x.n:Int),int (x.l:Int),int 1,int 4,.slice none 0 0,str ((x.d.drop i).take (j-i))]) rfl rfl rfl rfl (cells_own memZ)) rsubZ selZ ⟨rfl,rfl⟩
 ·refine C1 ?_
  refine Aau ?_;refine AA ?_;refine Aac ?_
  focus ((refine AL blClone_spec rfl rfl rdZ rfl rfl ?_; rintro _ rfl))
  focus ((refine AL (blDelete_spec _) rfl rfl rdZ rfl rfl ?_; rintro _ rfl))
  refine AF ?_;refine A6 ?_; rintro _ _ ⟨rfl,rfl⟩;refine AE ?_;refine Aat ?_;refine A4 ?_; rintro _ _ ⟨rfl,rfl⟩;refine AE ?_;exact AP (resS1 (b1:=b6) (v1:=[int (x.a:Int),int (x.c:Int),int 7,int (i:Int),int (x.d.length:Int),int 1,int (x.n:Int),int (x.l:Int),int 1,int 4,.slice none 0 0,str ((x.d.drop i).take (j-i))]) rfl rfl rfl rfl (cells_own memZ)) rsubZ selZ ⟨rfl,rfl⟩
theorem fgCut_spec {x:Bn} (hx:x.ok) (h0:x.o=0∧x.t=0) {i j:Nat} (hij:i<j) (hj:j≤x.d.length):Ans Tryz.prog (fv 7) [.agg #[int (x.a:Int),int (x.c:Int),int 7,int (x.o:Int),int (x.t:Int),int 1,int (x.n:Int),int (x.l:Int),int 1,int 4,.slice none 0 0,str x.d],int (i:Int),int (j:Int)] [] (fun r=>r=.tuple #[.agg #[int (x.a:Int),int (x.c:Int),int 7,int (i:Int),int (x.d.length:Int),int 1,int (x.n:Int),int (x.l:Int),int 1,int 4,.slice none 0 0,str ((x.d.drop i).take (j-i))],int 0]):=by
 have hck:=bnCheck_spec hx
 have hd:=Bn.d_len hx
 have hcu:=fgCuttable_spec (x:=x) (by omega)
 have hsp:=fgSpan_spec hx
 have hci:=fgCutIn_spec (Bn.d_len hx) h0 hij hj
 obtain ⟨h1,h2⟩:=h0
 refine spec_in (cap:=[]) Tryz.func7 rfl rfl Tryz.ntmps7 rfl envZ (fun N β=>?_)
 refine Aa ?_;refine A9 (BK rfl) rfl rfl rfl ?_;rintro _ _ ⟨b2,rfl,rfl⟩;refine AZ (ρ:=sng b2 (.cells #[int (x.a:Int),int (x.c:Int),int 7,int (x.o:Int),int (x.t:Int),int 1,int (x.n:Int),int (x.l:Int),int 1,int 4,.slice none 0 0,str x.d] 34 (0,0))) takeZ ?_
 have bx324_3:=rdB b2 34 [int (x.a:Int),int (x.c:Int),int 7,int (x.o:Int),int (x.t:Int),int 1,int (x.n:Int),int (x.l:Int),int 1,int 4,.slice none 0 0,str x.d]
 have c0:=rdC bx324_3 0
 have c1:=rdC bx324_3 1
 have c2:=rdC bx324_3 2
 have c3:=rdC bx324_3 3
 have c4:=rdC bx324_3 4
 have c5:=rdC bx324_3 5
 have c6:=rdC bx324_3 6
 have c7:=rdC bx324_3 7
 have c8:=rdC bx324_3 8
 have c9:=rdC bx324_3 9
 have c10:=rdC bx324_3 10
 have c11:=rdC bx324_3 11
 have cw:=rdB b2 34 [int (x.a:Int),int (x.c:Int),int 7,int (x.o:Int),int (x.t:Int),int 1,int (x.n:Int),int (x.l:Int),int 1,int 4,.slice none 0 0,str x.d]
 refine A9 (BP rfl) rfl rfl rfl ?_;rintro _ _ ⟨b6,rfl,rfl⟩;refine Abt ?_
 focus ((refine AL hck rfl rfl rdZ rfl rfl ?_; rintro _ rfl))
 refine Aba ?_;refine Aat ?_
 focus ((refine AL hcu rfl rfl rdZ rfl rfl ?_; rintro _ rfl))
 refine Aai ?_;refine Aba ?_;refine Aat ?_
 focus ((refine AL hsp rfl rfl rdZ rfl rfl ?_; rintro _ rfl))
 refine BG ?_; rintro _ _ ⟨b,rfl,rfl⟩;refine A4 ?_; rintro _ _ ⟨rfl,rfl⟩;refine Abb ?_;refine AB ?_;refine DA ?_;refine AB ?_;refine Aah ?_;refine BM ?_;refine Abo ?_;refine Aah ?_;refine BZ ?_;refine Aao ?_;refine Aat ?_;refine Aan ?_
 focus ((refine AL hci rfl rfl rdZ rfl rfl ?_; rintro _ rfl))
 refine A4 ?_; rintro _ _ ⟨rfl,rfl⟩;refine Aaa ?_;exact AP (resSE (b1:=b6) (T:=34) (v1:=[int (x.a:Int),int (x.c:Int),int 7,int (i:Int),int (x.d.length:Int),int 1,int (x.n:Int),int (x.l:Int),int 1,int 4,.slice none 0 0,str ((x.d.drop i).take (j-i))]) rfl rfl rfl rfl rfl (cells_own memZ)) rsubZ selZ ⟨rfl,rfl⟩
end Go.Proofs.YtjopknnkcnehmaaGreatDoor
