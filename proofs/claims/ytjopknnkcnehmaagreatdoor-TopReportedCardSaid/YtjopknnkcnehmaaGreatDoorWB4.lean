/- Texts of this proof, one after the other; no conditions. -/
import Derived.WideKeyRuns
import Derived.Test.YtjopknnkcnehmaaGreatDoorWB0
import Derived.Test.YtjopknnkcnehmaaGreatDoorWB3
import Derived.Test.YtjopknnkcnehmaaGreatDoorWB2
import Derived.Test.YtjopknnkcnehmaaGreatDoorWB1
set_option linter.all false
/- Building structs whose fields are structs. No conditions. -/
namespace Go.Eng
variable {C:Cx} {R H:List PH} {L:Env}
def placesP (P:Program):List Field→Option (List (Nat × Nat))
  | []=>some []
  | f::fs=>match szP P f.type,placesP P fs with
    | some n,some r=>some ((f.offset,n)::r)
    | _,_=>none
def evalPs (L:Env):List (Nat × Operand)→Option (List (Nat × Value))
  | []=>some []
  | (i,x)::ps=>match evalE L x,evalPs L ps with
    | some v,some r=>some ((i,v)::r)
    | _,_=>none
def fillL (pl:List (Nat × Nat)):List Value→List (Nat × Value)→Option (List Value)
  | zs,[]=>some zs
  | zs,(i,v)::r=>match pl[i]? with
    | none=>none
    | some (off,size)=>if v.cells.size=size∧off+size≤zs.length then fillL pl (zs.take off ++ (v.cells.toList ++ zs.drop (off+size))) r else none
theorem fillL_eq {pl:List (Nat × Nat)}:∀ {pvs:List (Nat × Value)} {zs out:List Value},fillL pl zs pvs=some out→Instr.fill (fun i=>pl[i]?) zs.toArray pvs=some out.toArray
  | [],zs,out,h=>by simp [fillL] at h; subst h; rfl
  | (i,v)::r,zs,out,h=>by
    unfold fillL at h;unfold Instr.fill
    split at h
    · simp at h
    · rename_i off size e
      rw [e]
      split at h
      · rename_i hc
        have ih:=fillL_eq h
        have hs:=splice_fold v.cells.toList 0 off zs.toArray (by simp; omega)
        simp only
        rw [if_neg (by simp; omega)]
        rw [← ih]
        congr 1
        apply Array.ext'
        simpa [← Array.toList_zipIdx,← hc.1] using hs
      · simp at h
theorem evalPs_eq {a:Act}:∀ {ps:List (Nat × Operand)} {pvs:List (Nat × Value)},evalPs L ps=some pvs→(∀ x∈ps.map (·.2),OnE L a x)→ps.map (fun (x:Nat × Operand)=>(x.1,a.eval x.2))=pvs
  | [],pvs,h,_=>by simp [evalPs] at h; subst h; rfl
  | (i,x)::ps,pvs,h,hx=>by
    unfold evalPs at h
    split at h
    · rename_i v r e1 e2
      simp at h; subst h
      rw [List.map_cons,evalPs_eq e2 (fun y hy=>hx y (by simp at hy ⊢; exact .inr hy)),hx x (by simp) v e1]
    · simp at h
theorem placesP_run {P:Program}:∀ (fs:List Field) (pl:List (Nat × Nat)) (w:World),placesP P fs=some pl→(fs.mapM (fun f=>Prod.mk f.offset <$> sizeOf f.type:Field→Sem (Nat × Nat))).run P w=.ok pl w
  | [],pl,w,h=>by simp [placesP] at h; subst h; simp
  | f::fs,pl,w,h=>by
    unfold placesP at h
    split at h
    · rename_i n r e1 e2
      simp at h; subst h
      simp [List.mapM_cons,run_sizeOf e1,placesP_run fs r w e2]
    · simp at h
theorem A8 {dst:Option Tmp} {ty:TypeId} {pos:String} {aft:Array Edge} {g:Option (Nat × Bool)} {t:TypeId} {ps:List (Nat × Operand)} {fs:List Field} {pl:List (Nat × Nat)} {pvs:List (Nat × Value)} {zs out:List Value}
    (hu:C.P.underlying t=some (.struct fs.toArray)) (hz:zeroP C.P t=some (.agg zs.toArray)) (hpl:placesP C.P fs=some pl) (hv:evalPs L ps=some pvs) (ho:fillL pl zs pvs=some out) :
    Quiet C R H L ⟨dst,.build t ps.toArray,ty,pos,aft,g⟩ (.agg out.toArray):=
  ⟨by intro c; simp,fun a w hxx _=>by
    have h1:=evalPs_eq (a:=a) hv (fun x hx=>hxx x (by simp [Op.operands] at hx ⊢; exact hx))
    have h2:=placesP_run fs pl w hpl
    have h3:=fillL_eq ho
    simp only [execOp,Instr.build]
    simp [run_zeroValue hz,Value.cells,run_underlying hu,h1,h2,h3]⟩
end Go.Eng
namespace Go.Proofs.YtjopknnkcnehmaaGreatDoor
open Go.Eng Go.Step
set_option maxRecDepth 100000
set_option maxHeartbeats 64000000
theorem vaLength_spec {s tl:List UInt8} {at_ n:Nat} (hn:n≤65536) (hs:s.drop at_=vInt n ++ tl) (hl:s.length≤1000000000) (br:Nat) :
  Eng.Spec Tryz.prog (fv 96) [.pointer (some ⟨br,0,none⟩)] [] [sng br (.cells #[str s,int (at_:Int),int 0] 201 (0,0))] (fun r H'=>r=int (n:Int)∧H'=[sng br (.cells #[str s,int ((at_+(vInt n).length:Nat):Int),int 0] 201 (0,0))]):=by
 have hi:=vaInteger_spec (by omega) hs hl br
 refine spec_in (cap:=[]) Tryz.func96 rfl rfl Tryz.ntmps96 rfl envZ (fun N β=>?_)
 refine Abu ?_;refine BF hi rfl rfl takesZ rdZ rfl rfl ?_;rintro _ _ ⟨rfl,rfl⟩;refine Aam ?_;refine BM ?_;refine Aan ?_;refine BZ ?_;refine Aao ?_;refine Aab ?_;refine Aaa ?_;exact AP (H':=[sng br (.cells #[str s,int ((at_+(vInt n).length:Nat):Int),int 0] 201 (0,0))]) (res1 rfl rfl) rsubZ selZ ⟨rfl,rfl⟩
theorem vaReadInt_spec {s tl:List UInt8} {n:Nat} (hn:n≤1152921504606846976) (hs:s=vInt n ++ tl) (hl:s.length≤1000000000) :
  Ans Tryz.prog (fv 56) [str s] [] (fun r=>r=.tuple #[int (n:Int),int ((vInt n).length:Int),int 0]):=by
 have hi:=fun br=>vaInteger_spec (at_:=0) hn (by rw [List.drop_zero]; exact hs) hl br
 simp only [Nat.zero_add] at hi
 refine spec_in (cap:=[]) Tryz.func56 rfl rfl Tryz.ntmps56 rfl envZ (fun N β=>?_)
 refine Abi ?_;refine AC ?_;refine Aai ?_;refine B0 ?_
 focus ((refine BB (A8 (out:=[str s,int 0,int 0]) rfl rfl rfl rfl rfl) rfl rfl rfl ?_))
 refine CJ ?_; rintro _ _ ⟨b,rfl,rfl⟩;refine Aai ?_
 revert b; intro br
 refine BF (hi br) rfl rfl takesZ rdZ rfl rfl ?_;rintro _ _ ⟨rfl,rfl⟩;refine Aam ?_;refine Aa5 ?_;refine Aba ?_
 refine BH (.q 0 (.q 1 (.q 2 (.q 3 (.q 4 (.q 5 (.q 6 (.q 7 (.q 8 .nil))))))))) [] rfl (by kernel_rfl) Sel.nil ?_
 refine AS ?_;refine Ach ?_;refine BD ?_;refine BD ?_;refine Abn ?_
 skip
 exact AP (H':=[]) (res3 rfl rfl rfl rfl) rsubZ selZ ⟨rfl,rfl⟩
theorem vaText_spec {t:List UInt8} (hl:t.length≤65536):Ans Tryz.prog (fv 23) [str t] [] (fun r=>r=.tuple #[str (vText t),int 0]):=by
 have hi:=vaInt_spec (n:=t.length) (by omega)
 have hv:=vInt_len t.length
 refine spec_in (cap:=[]) Tryz.func23 rfl rfl Tryz.ntmps23 rfl envZ (fun N β=>?_)
 refine Abi ?_;refine Aam ?_
 focus ((refine' BB _ rfl rfl rfl _; rotate_left; (apply BW; exact rfl; exact rfl)))
 refine BZ ?_;refine Aaf ?_;refine Aab ?_
 focus ((refine' BB _ rfl rfl rfl _; rotate_left; (apply BW; exact rfl; exact rfl)))
 refine AL hi rfl rfl rdZ rfl rfl ?_;rintro _ rfl;refine Aby ?_;refine AB ?_
 focus ((refine BB (DS rfl rfl (by omega)) rfl rfl rfl ?_))
 refine Abf ?_;exact AP (res2 rfl rfl rfl) rsubZ selZ ⟨rfl,rfl⟩
theorem vaReadText_spec {s t tl:List UInt8} (hn:t.length≤65536) (hs:s=vText t ++ tl) (hl:s.length≤1000000000) :
  Ans Tryz.prog (fv 57) [str s] [] (fun r=>r=.tuple #[str t,int ((vText t).length:Int),int 0]):=by
 have hi:=fun br=>vaLength_spec (at_:=0) (n:=t.length) (tl:=t ++ tl) hn (by rw [List.drop_zero,hs,vText,List.append_assoc]) hl br
 simp only [Nat.zero_add] at hi
 have hll:s.length=(vInt t.length).length+t.length+tl.length:=by rw [hs,List.length_append,vText_len]
 have hre:=fun br=>vaRest_spec (s:=s) (at_:=((vInt t.length).length:Int)) (er:=0) br ⟨by omega,by omega⟩ (by omega)
 have hcut:(s.drop (vInt t.length).length).take ((vInt t.length).length+t.length-(vInt t.length).length)=t:=by
  rw [hs,vText,List.append_assoc,List.drop_left,Nat.add_sub_cancel_left,List.take_left]
 have e1:(((vInt t.length).length:Nat):Int)+(t.length:Int)=(((vInt t.length).length+t.length:Nat):Int):=by omega
 have e2:=vText_len t
 rw [e2]
 generalize (vInt t.length).length=V at *
 refine spec_in (cap:=[]) Tryz.func57 rfl rfl Tryz.ntmps57 rfl envZ (fun N β=>?_)
 refine Abi ?_;refine AC ?_;refine Aai ?_;refine B0 ?_
 focus ((refine BB (A8 (out:=[str s,int 0,int 0]) rfl rfl rfl rfl rfl) rfl rfl rfl ?_))
 refine CJ ?_; rintro _ _ ⟨b,rfl,rfl⟩;refine Aai ?_
 revert b; intro br
 refine BF (hi br) rfl rfl takesZ rdZ rfl rfl ?_;rintro _ _ ⟨rfl,rfl⟩;refine Aam ?_;refine Abj ?_;refine AL (hre br) rfl rfl rdZ rfl rfl ?_;rintro _ rfl;refine AB ?_;refine BM ?_;refine Aax ?_;refine Aab ?_;refine Aa5 ?_;refine Aba ?_
 refine BH (.q 0 (.q 1 (.q 2 (.q 3 (.q 4 (.q 5 (.q 6 (.q 7 (.q 8 (.q 9 (.q 10 (.q 11 (.q 12 (.q 13 (.q 14 (.q 15 (.q 16 (.q 17 (.q 18 (.q 19 (.q 20 (.q 21 (.q 22 (.q 23 .nil)))))))))))))))))))))))) [] rfl (by kernel_rfl) Sel.nil ?_
 refine AS ?_;refine Ach ?_;refine Ach ?_;refine AS ?_;refine DB ?_
 focus ((rw [e1]))
 focus ((refine' BR rfl _ rfl rfl rfl rfl _; rotate_left; (apply D4; exact rfl; exact rfl; exact rfl; exact rfl; omega; omega)))
 refine Ach ?_;refine AS ?_;refine DB ?_;refine BD ?_;refine BD ?_;refine Abn ?_
 focus ((rw [e1]))
 focus ((rw [hcut]))
 skip
 exact AP (H':=[]) (res3 rfl rfl rfl rfl) rsubZ selZ ⟨rfl,rfl⟩
end Go.Proofs.YtjopknnkcnehmaaGreatDoor
namespace Go.Ev
open Go.Eng
inductive Tr (α:Type) where
  | e
  | n (v:Option α) (l r:Tr α)
noncomputable def Tr.get {α:Type} (t:Tr α):Nat→Option α:=
  Tr.rec (fun _=>none) (fun v _ _ ihl ihr k=>Bool.rec (Bool.rec (ihr (k / 2-1)) (ihl (k / 2)) ((k % 2).beq 1)) v (k.beq 0)) t
noncomputable def Tr.path {α:Type} (x:Option α) (f:Nat):Nat→Option (Tr α):=
  Nat.rec (fun _=>none) (fun _ ih k=>Bool.rec (Bool.rec (Option.rec none (fun r=>some (.n none .e r)) (ih (k / 2-1))) (Option.rec none (fun l=>some (.n none l .e)) (ih (k / 2))) ((k % 2).beq 1)) (some (.n x .e .e)) (k.beq 0)) f
noncomputable def Tr.put {α:Type} (f:Nat) (t:Tr α) (k:Nat) (x:Option α):Option (Tr α):=
  Tr.rec (motive:=fun _=>Nat→Option (Tr α)) (fun k=>Tr.path x f k) (fun v l r ihl ihr k=>Bool.rec (Bool.rec (Option.rec none (fun r'=>some (.n v l r')) (ihr (k / 2-1))) (Option.rec none (fun l'=>some (.n v l' r)) (ihl (k / 2))) ((k % 2).beq 1)) (some (.n x l r)) (k.beq 0)) t k
theorem bqr {β:Type} (a b:Nat) (x y:β):(Bool.rec y x (Nat.beq a b):β)=if a=b then x else y:=by
  by_cases h:a=b
  · subst h; rw [if_pos rfl,show Nat.beq a a=true from Nat.beq_refl a]
  · rw [if_neg h]
    cases e:Nat.beq a b with
    | true=>exact absurd (Nat.eq_of_beq_eq_true e) h
    | false=>rfl
theorem opr {α β:Type} (o:Option α) (g:α→β):(Option.rec none (fun a=>some (g a)) o:Option β)=o.map g:=by cases o <;> rfl
theorem bq {β:Type} (a b:Nat) (x y:β):(bif Nat.beq a b then x else y)=if a=b then x else y:=by
  by_cases h:a=b
  · subst h; rw [if_pos rfl,show Nat.beq a a=true from Nat.beq_refl a]; rfl
  · rw [if_neg h]
    cases e:Nat.beq a b with
    | true=>exact absurd (Nat.eq_of_beq_eq_true e) h
    | false=>rfl
theorem Tr.get_e {α:Type} (k:Nat):(Tr.e:Tr α).get k=none:=rfl
theorem Tr.get_n {α:Type} (v:Option α) (l r:Tr α) (k:Nat):(Tr.n v l r).get k=if k=0 then v else if k % 2=1 then l.get (k / 2) else r.get (k / 2-1):=by
  show (Bool.rec (Bool.rec (r.get (k / 2-1)) (l.get (k / 2)) ((k % 2).beq 1)) v (k.beq 0):Option α)=_
  rw [bqr,bqr]
theorem Tr.path_s {α:Type} (x:Option α) (f k:Nat):Tr.path x (f+1) k=if k=0 then some (.n x .e .e) else if k % 2=1 then (Tr.path x f (k / 2)).map (fun l=>.n none l .e) else (Tr.path x f (k / 2-1)).map (fun r=>.n none .e r):=by
  show (Bool.rec (Bool.rec (Option.rec none (fun r=>some (.n none .e r)) (Tr.path x f (k / 2-1))) (Option.rec none (fun l=>some (.n none l .e)) (Tr.path x f (k / 2))) ((k % 2).beq 1)) (some (.n x .e .e)) (k.beq 0):Option (Tr α))=_
  rw [bqr,bqr,opr,opr]
theorem Tr.put_n {α:Type} (f:Nat) (v:Option α) (l r:Tr α) (k:Nat) (x:Option α):Tr.put f (.n v l r) k x=if k=0 then some (.n x l r) else if k % 2=1 then (Tr.put f l (k / 2) x).map (fun l'=>.n v l' r) else (Tr.put f r (k / 2-1) x).map (fun r'=>.n v l r'):=by
  show (Bool.rec (Bool.rec (Option.rec none (fun r'=>some (.n v l r')) (Tr.put f r (k / 2-1) x)) (Option.rec none (fun l'=>some (.n v l' r)) (Tr.put f l (k / 2) x)) ((k % 2).beq 1)) (some (.n x l r)) (k.beq 0):Option (Tr α))=_
  rw [bqr,bqr,opr,opr]
theorem Tr.get_path {α:Type} (x:Option α):∀ (f k j:Nat) (t:Tr α),Tr.path x f k=some t→t.get j=if j=k then x else none:=by
  intro f
  induction f with
  | zero=>intro k j t h; simp [Tr.path] at h
  | succ f ih =>
    intro k j t h
    rw [Tr.path_s] at h
    by_cases hk:k=0
    · rw [if_pos hk,Option.some.injEq] at h
      subst h hk;rw [Tr.get_n]
      by_cases hj:j=0 <;> simp [hj,Tr.get_e]
    · rw [if_neg hk] at h
      by_cases h2:k % 2=1
      · rw [if_pos h2,Option.map_eq_some_iff] at h
        obtain ⟨l,hl,rfl⟩:=h
        rw [Tr.get_n,ih _ (j / 2) _ hl]
        by_cases hj:j=0
        · simp [hj,Ne.symm hk]
        · by_cases hj2:j % 2=1
          · by_cases e:j=k
            · simp [e,h2,hk]
            · have:j / 2≠k / 2:=by omega
              simp [hj,hj2,e,this]
          · have:j≠k:=fun e=>hj2 (e ▸ h2)
            simp [hj,hj2,this,Tr.get_e]
      · rw [if_neg h2,Option.map_eq_some_iff] at h
        obtain ⟨r,hr,rfl⟩:=h
        rw [Tr.get_n,ih _ (j / 2-1) _ hr]
        by_cases hj:j=0
        · simp [hj,Ne.symm hk]
        · by_cases hj2:j % 2=1
          · have:j≠k:=fun e=>h2 (e ▸ hj2)
            simp [hj,hj2,this,Tr.get_e]
          · by_cases e:j=k
            · simp [e,h2,hk]
            · have:j / 2-1≠k / 2-1:=by omega
              simp [hj,hj2,e,this]
theorem Tr.get_put {α:Type} (f:Nat) (x:Option α):∀ (t t':Tr α) (k j:Nat),Tr.put f t k x=some t'→t'.get j=if j=k then x else t.get j:=by
  intro t
  induction t with
  | e=>intro t' k j h; rw [Tr.get_path x f k j t' h]; rfl
  | n v l r ihl ihr =>
    intro t' k j h
    rw [Tr.put_n] at h
    by_cases hk:k=0
    · rw [if_pos hk,Option.some.injEq] at h
      subst h hk;rw [Tr.get_n,Tr.get_n]
      by_cases hj:j=0 <;> simp [hj]
    · rw [if_neg hk] at h
      by_cases h2:k % 2=1
      · rw [if_pos h2,Option.map_eq_some_iff] at h
        obtain ⟨l',hl,rfl⟩:=h
        rw [Tr.get_n,Tr.get_n,ihl _ _ (j / 2) hl]
        by_cases hj:j=0
        · simp [hj,Ne.symm hk]
        · by_cases hj2:j % 2=1
          · by_cases e:j=k
            · simp [e,h2,hk]
            · have:j / 2≠k / 2:=by omega
              simp [hj,hj2,e,this]
          · have:j≠k:=fun e=>hj2 (e ▸ h2)
            simp [hj,hj2,this]
      · rw [if_neg h2,Option.map_eq_some_iff] at h
        obtain ⟨r',hr,rfl⟩:=h
        rw [Tr.get_n,Tr.get_n,ihr _ _ (j / 2-1) hr]
        by_cases hj:j=0
        · simp [hj,Ne.symm hk]
        · by_cases hj2:j % 2=1
          · have:j≠k:=fun e=>h2 (e ▸ hj2)
            simp [hj,hj2,this]
          · by_cases e:j=k
            · simp [e,h2,hk]
            · have:j / 2-1≠k / 2-1:=by omega
              simp [hj,hj2,e,this]
/-! what is carried out at once: the same -/
def fN:Nat→Option Nat
  | 0=>some 0
  | n+1=>some (n+1)
theorem fN_eq (n:Nat):fN n=some n:=by cases n <;> rfl
def fZ:Int→Option Int
  | .ofNat n=>match fN n with
    | some m=>some (.ofNat m)
    | none=>none
  | .negSucc n=>match fN n with
    | some m=>some (.negSucc m)
    | none=>none
theorem fZ_eq (n:Int):fZ n=some n:=by cases n <;> simp [fZ,fN_eq]
noncomputable def fB (l:List UInt8):Option (List UInt8):=
  List.rec (some []) (fun b _ ih=>Option.rec none (fun n=>Option.rec none (fun l'=>some (UInt8.ofNat n::l')) ih) (fN b.toNat)) l
theorem fB_eq (l:List UInt8):fB l=some l:=by
  induction l with
  | nil=>rfl
  | cons b l ih =>
    show (Option.rec none (fun n=>Option.rec none (fun l'=>some (UInt8.ofNat n::l')) (fB l)) (fN b.toNat):Option (List UInt8))=_
    rw [ih,fN_eq]; simp
def fA:Option Addr→Option (Option Addr)
  | none=>some none
  | some ⟨i,o,s⟩=>match fN i,fN o,s with
    | some i',some o',none=>some (some ⟨i',o',none⟩)
    | some i',some o',some s=>some (some ⟨i',o',some s⟩)
    | _,_,_=>none
theorem fA_eq (a:Option Addr):fA a=some a:=by
  rcases a with _|⟨i,o,_|s⟩ <;> simp [fA,fN_eq]
noncomputable def fV1:Value→Option Value
  | .bool true=>some (.bool true)
  | .bool false=>some (.bool false)
  | .int k n=>match fZ n with
    | some m=>some (.int k m)
    | none=>none
  | .string ⟨⟨l⟩⟩=>match fB l with
    | some l'=>some (.string ⟨⟨l'⟩⟩)
    | none=>none
  | .pointer a=>match fA a with
    | some a'=>some (.pointer a')
    | none=>none
  | .slice a n c=>match fA a,fN n,fN c with
    | some a',some n',some c'=>some (.slice a' n' c')
    | _,_,_=>none
  | v=>some v
theorem fV1_eq (v:Value):fV1 v=some v:=by
  cases v with
  | bool b=>cases b <;> rfl
  | string s=>obtain ⟨⟨l⟩⟩:=s; simp [fV1,fB_eq]
  | _=>simp [fV1,fZ_eq,fA_eq,fN_eq]
noncomputable def fL1 (l:List Value):Option (List Value):=
  List.rec (some []) (fun a _ ih=>Option.rec none (fun a'=>Option.rec none (fun l'=>some (a'::l')) ih) (fV1 a)) l
theorem fL1_eq (l:List Value):fL1 l=some l:=by
  induction l with
  | nil=>rfl
  | cons b l ih =>
    show (Option.rec none (fun a'=>Option.rec none (fun l'=>some (a'::l')) (fL1 l)) (fV1 b):Option (List Value))=_
    rw [ih,fV1_eq]
noncomputable def fV:Value→Option Value
  | .agg ⟨l⟩=>match fL1 l with
    | some l'=>some (.agg ⟨l'⟩)
    | none=>none
  | .tuple ⟨l⟩=>match fL1 l with
    | some l'=>some (.tuple ⟨l'⟩)
    | none=>none
  | .func f ⟨l⟩ ⟨m⟩=>match fL1 l,fL1 m with
    | some l',some m'=>some (.func f ⟨l'⟩ ⟨m'⟩)
    | _,_=>none
  | v=>fV1 v
theorem fV_eq (v:Value):fV v=some v:=by
  cases v with
  | agg c=>obtain ⟨l⟩:=c; simp [fV,fL1_eq]
  | tuple c=>obtain ⟨l⟩:=c; simp [fV,fL1_eq]
  | func f c d=>obtain ⟨l⟩:=c; obtain ⟨m⟩:=d; simp [fV,fL1_eq]
  | _=>simp [fV,fV1_eq]
end Go.Ev
namespace Go.Ev
open Go.Eng
abbrev Rn:=Nat→Option (Nat × Nat × Nat)
def Rn.le (ρ ρ':Rn):Prop:=∀ i x,ρ i=some x→ρ' i=some x
def big:Nat:=1180591620717411303424
def big2:Nat:=2361183241434822606848
def sub1 (c:Nat):Nat:=c % big
def sub2 (c:Nat):Nat:=c % big2
def rnA (ρ:Rn):Option Addr→Option (Option Addr)
  | none=>some none
  | some ⟨i,o,none⟩=>match ρ i with
    | some (b,s,_)=>some (some ⟨b,s+o,none⟩)
    | none=>none
  | some ⟨_,_,some _⟩=>none
def rnS (ρ:Rn) (i o n c:Nat):Option Value:=match ρ i with
  | some (b,s,e) =>
    if c<big then some (.slice (some ⟨b,s+o,none⟩) n c)
    else if c<big2 then some (.slice (some ⟨b,s+o,none⟩) n (sub1 c+e))
    else if n=0 then (if e=0 then some (.slice (some ⟨b,s+o,none⟩) 0 0) else some (.slice (some ⟨b,s+(o+(sub2 c)),none⟩) 0 e))
    else none
  | none=>none
def rnF (ρ:Rn):Fn→Option Fn
  | .func f=>some (.func f)
  | .yield l=>match ρ l with
    | some (b,_,_)=>some (.yield b)
    | none=>none
  | _=>none
mutual
def rn (ρ:Rn):Value→Option Value
  | .bool b=>some (.bool b)
  | .int k n=>some (.int k n)
  | .string s=>some (.string s)
  | .pointer a=>match rnA ρ a with
    | some a'=>some (.pointer a')
    | none=>none
  | .slice none n c=>some (.slice none n c)
  | .slice (some ⟨i,o,none⟩) n c=>rnS ρ i o n c
  | .map none=>some (.map none)
  | .map (some i)=>match ρ i with
    | some (b,_,_)=>some (.map (some b))
    | none=>none
  | .func f xs cs=>match rnF ρ f,rnR ρ xs,rnR ρ cs with
    | some f',some xs',some cs'=>some (.func f' xs' cs')
    | _,_,_=>none
  | .nilFunc=>some .nilFunc
  | .nilIface=>some .nilIface
  | .agg cs=>match rnR ρ cs with
    | some cs'=>some (.agg cs')
    | none=>none
  | .tuple cs=>match rnR ρ cs with
    | some cs'=>some (.tuple cs')
    | none=>none
  | _=>none
def rnR (ρ:Rn):Array Value→Option (Array Value)
  | ⟨l⟩=>match rnL ρ l with
    | some l'=>some l'.toArray
    | none=>none
def rnL (ρ:Rn):List Value→Option (List Value)
  | []=>some []
  | v::l=>match rn ρ v,rnL ρ l with
    | some v',some l'=>some (v'::l')
    | _,_=>none
end
section
variable {ρ ρ':Rn}
theorem rnA_mono (h:ρ.le ρ') {a:Option Addr} {a':Option Addr} (e:rnA ρ a=some a'):rnA ρ' a=some a':=by
  rcases a with _|⟨i,o,_|s⟩
  · exact e
  · simp only [rnA] at e ⊢
    cases hi:ρ i with
    | none=>simp [hi] at e
    | some x=>rw [h i x hi]; rw [hi] at e; exact e
  · simp [rnA] at e
theorem rnS_mono (h:ρ.le ρ') {i o n c:Nat} {u:Value} (e:rnS ρ i o n c=some u):rnS ρ' i o n c=some u:=by
  unfold rnS at e ⊢
  cases hi:ρ i with
  | none=>simp [hi] at e
  | some x=>rw [h i x hi]; rw [hi] at e; exact e
theorem rnF_mono (h:ρ.le ρ') {f f':Fn} (e:rnF ρ f=some f'):rnF ρ' f=some f':=by
  cases f with
  | yield l =>
    simp only [rnF] at e ⊢
    cases hi:ρ l with
    | none=>simp [hi] at e
    | some x=>rw [h l x hi]; rw [hi] at e; exact e
  | _=>exact e
mutual
theorem rn_mono (h:ρ.le ρ'):∀ {v u:Value},rn ρ v=some u→rn ρ' v=some u
  | .bool b,u,e=>e
  | .int k n,u,e=>e
  | .string s,u,e=>e
  | .float ..,u,e=>by simp [rn] at e
  | .complex ..,u,e=>by simp [rn] at e
  | .chan ..,u,e=>by simp [rn] at e
  | .iface ..,u,e=>by simp [rn] at e
  | .pointer a,u,e=>by
    simp only [rn] at e ⊢
    cases ha:rnA ρ a with
    | none=>simp [ha] at e
    | some a'=>rw [rnA_mono h ha]; rw [ha] at e; exact e
  | .slice none n c,u,e=>e
  | .slice (some ⟨i,o,none⟩) n c,u,e=>by simp only [rn] at e ⊢; exact rnS_mono h e
  | .slice (some ⟨i,o,some _⟩) n c,u,e=>by simp [rn] at e
  | .map none,u,e=>e
  | .map (some i),u,e=>by
    simp only [rn] at e ⊢
    cases hi:ρ i with
    | none=>simp [hi] at e
    | some x=>rw [h i x hi]; rw [hi] at e; exact e
  | .func f xs cs,u,e=>by
    simp only [rn] at e ⊢
    cases h1:rnF ρ f with
    | none=>simp [h1] at e
    | some f'=>cases h2:rnR ρ xs with
      | none=>simp [h1,h2] at e
      | some xs'=>cases h3:rnR ρ cs with
        | none=>simp [h1,h2,h3] at e
        | some cs'=>rw [rnF_mono h h1,rnR_mono h h2,rnR_mono h h3]; rw [h1,h2,h3] at e; exact e
  | .nilFunc,u,e=>e
  | .nilIface,u,e=>e
  | .agg cs,u,e=>by
    simp only [rn] at e ⊢
    cases h1:rnR ρ cs with
    | none=>simp [h1] at e
    | some cs'=>rw [rnR_mono h h1]; rw [h1] at e; exact e
  | .tuple cs,u,e=>by
    simp only [rn] at e ⊢
    cases h1:rnR ρ cs with
    | none=>simp [h1] at e
    | some cs'=>rw [rnR_mono h h1]; rw [h1] at e; exact e
theorem rnR_mono (h:ρ.le ρ'):∀ {v u:Array Value},rnR ρ v=some u→rnR ρ' v=some u
  | ⟨l⟩,u,e=>by
    simp only [rnR] at e ⊢
    cases h1:rnL ρ l with
    | none=>simp [h1] at e
    | some l'=>rw [rnL_mono h h1]; rw [h1] at e; exact e
theorem rnL_mono (h:ρ.le ρ'):∀ {v u:List Value},rnL ρ v=some u→rnL ρ' v=some u
  | [],u,e=>e
  | v::l,u,e=>by
    simp only [rnL] at e ⊢
    cases h1:rn ρ v with
    | none=>simp [h1] at e
    | some v'=>cases h2:rnL ρ l with
      | none=>simp [h1,h2] at e
      | some l'=>rw [rn_mono h h1,rnL_mono h h2]; rw [h1,h2] at e; exact e
end
mutual
def flat:Value→Bool
  | .bool _ | .int _ _ | .string _ | .pointer none | .slice none _ _ | .map none | .nilFunc | .nilIface=>true
  | .func (.func _) xs cs=>flatR xs && flatR cs
  | .agg cs | .tuple cs=>flatR cs
  | _=>false
def flatR:Array Value→Bool
  | ⟨l⟩=>flatL l
def flatL:List Value→Bool
  | []=>true
  | v::l=>flat v && flatL l
end
mutual
theorem rn_flat:∀ {v:Value},flat v=true→rn ρ v=some v
  | .bool b,_=>rfl
  | .int k n,_=>rfl
  | .string s,_=>rfl
  | .float ..,e=>by simp [flat] at e
  | .complex ..,e=>by simp [flat] at e
  | .chan ..,e=>by simp [flat] at e
  | .iface ..,e=>by simp [flat] at e
  | .pointer none,_=>rfl
  | .pointer (some a),e=>by simp [flat] at e
  | .slice none n c,_=>rfl
  | .slice (some a) n c,e=>by simp [flat] at e
  | .map none,_=>rfl
  | .map (some i),e=>by simp [flat] at e
  | .func (.func f) xs cs,e=>by
    simp only [flat,Bool.and_eq_true] at e
    simp [rn,rnF,rnR_flat e.1,rnR_flat e.2]
  | .func (.method ..) xs cs,e=>by simp [flat] at e
  | .func (.methodOf ..) xs cs,e=>by simp [flat] at e
  | .func (.via ..) xs cs,e=>by simp [flat] at e
  | .func (.yield ..) xs cs,e=>by simp [flat] at e
  | .nilFunc,_=>rfl
  | .nilIface,_=>rfl
  | .agg cs,e=>by simp only [flat] at e; simp [rn,rnR_flat e]
  | .tuple cs,e=>by simp only [flat] at e; simp [rn,rnR_flat e]
theorem rnR_flat:∀ {v:Array Value},flatR v=true→rnR ρ v=some v
  | ⟨l⟩,e=>by simp only [flatR] at e; simp [rnR,rnL_flat e]
theorem rnL_flat:∀ {v:List Value},flatL v=true→rnL ρ v=some v
  | [],_=>rfl
  | v::l,e=>by
    simp only [flatL,Bool.and_eq_true] at e
    simp [rnL,rn_flat e.1,rnL_flat e.2]
end
theorem rnL_nil:rnL ρ []=some []:=rfl
theorem rnL_cons {v:Value} {l us:List Value}:rnL ρ (v::l)=some us↔∃ u r,rn ρ v=some u∧rnL ρ l=some r∧us=u::r:=by
  simp only [rnL]
  cases h1:rn ρ v with
  | none=>simp
  | some v'=>cases h2:rnL ρ l with
    | none=>simp
    | some l'=>simp [eq_comm]
theorem rnL_append {l m us:List Value}:rnL ρ (l ++ m)=some us↔∃ a b,rnL ρ l=some a∧rnL ρ m=some b∧us=a ++ b:=by
  induction l generalizing us with
  | nil=>simp [rnL]
  | cons v l ih =>
    rw [List.cons_append,rnL_cons]
    constructor
    · rintro ⟨u,r,h1,h2,rfl⟩
      obtain ⟨a,b,h3,h4,rfl⟩:=ih.1 h2
      exact ⟨u::a,b,rnL_cons.2 ⟨u,a,h1,h3,rfl⟩,h4,rfl⟩
    · rintro ⟨a,b,h1,h2,rfl⟩
      obtain ⟨u,r,h3,h4,rfl⟩:=rnL_cons.1 h1
      exact ⟨u,r ++ b,h3,ih.2 ⟨r,b,h4,h2,rfl⟩,rfl⟩
theorem rnL_len {l us:List Value} (h:rnL ρ l=some us):us.length=l.length:=by
  induction l generalizing us with
  | nil=>simp [rnL] at h; simp [h]
  | cons v l ih =>
    obtain ⟨u,r,_,h2,rfl⟩:=rnL_cons.1 h
    simp [ih h2]
theorem rnL_get {l us:List Value} (h:rnL ρ l=some us) {i:Nat} {v:Value} (hi:l[i]?=some v):∃ u,us[i]?=some u∧rn ρ v=some u:=by
  induction l generalizing us i with
  | nil=>simp at hi
  | cons w l ih =>
    obtain ⟨u,r,h1,h2,rfl⟩:=rnL_cons.1 h
    cases i with
    | zero=>simp at hi; subst hi; exact ⟨u,rfl,h1⟩
    | succ i=>exact ih h2 (by simpa using hi)
theorem rnL_split {l us:List Value} (n:Nat) (h:rnL ρ l=some us):rnL ρ (l.take n)=some (us.take n)∧rnL ρ (l.drop n)=some (us.drop n):=by
  have h0:=h
  rw [← List.take_append_drop n l] at h0
  obtain ⟨a,b,h1,h2,rfl⟩:=rnL_append.1 h0
  have hl:=rnL_len h1
  have hlen:=rnL_len h
  by_cases hn:n≤l.length
  · have:a.length=n:=by rw [hl,List.length_take]; omega
    rw [List.take_left' this,List.drop_left' this];exact ⟨h1,h2⟩
  · have e1:l.take n=l:=List.take_of_length_le (by omega)
    have e2:l.drop n=[]:=List.drop_of_length_le (by omega)
    rw [e2] at h2
    simp [rnL] at h2
    subst h2;rw [List.append_nil]
    have:a.length≤n:=by rw [hl,e1]; omega
    rw [List.take_of_length_le this,List.drop_of_length_le this,e2];exact ⟨h1,rfl⟩
end
end Go.Ev
namespace Go.Eng
variable {C : Cx} {D : List Deferred} {R H : List PH} {L : Env} {K : List It}
variable {dst : Option Tmp} {ty : TypeId} {pos : String} {aft : Array Edge} {g : Option (Nat × Bool)}
abbrev aggI (k : List Int) : Value := .agg (k.map int).toArray
structure KeyS (P : Program) (kt : TypeId) (n : Nat) : Prop where
  i : intsP P kt n = true
  s : P.stoodInHeld kt = false
theorem run_checkFlds {P : Program} {w : World} (em : Bool) (d : Nat) (k : List Int) : ∀ (fs : List Field) (j : Nat), fldsI P j fs = true → j + fs.length = k.length →
    ((forIn fs PUnit.unit fun (f : Field) (_ : PUnit) => (if f.name ≠ "_" then do let x ← part f.type (k.map int).toArray f.offset; Instr.checkKey em (d + 1) f.type x; pure (ForInStep.yield PUnit.unit) else pure (ForInStep.yield PUnit.unit) : Sem (ForInStep PUnit)))).run P w = .ok PUnit.unit w
  | [], j, _, _ => by simp
  | f :: fs, j, hf, h => by
    simp only [fldsI, fldI, Bool.and_eq_true, bne_iff_ne, ne_eq, beq_iff_eq] at hf
    obtain ⟨⟨⟨h3, h4⟩, h5⟩, h6⟩ := hf
    have hu : P.underlying f.type = some (.int .i64) := by
      split at h5
      · assumption
      · simp at h5
    have ih := run_checkFlds (w := w) em d k fs (j + 1) h6 (by simp at h; omega)
    have hk : j < k.length := by simp at h; omega
    have hp : (part f.type (k.map int).toArray f.offset).run P w = .ok (int k[j]) w := by
      have hag : aggP P f.type = some false := by simp [aggP, hu]
      simp [part, run_isAgg hag, h4, hk]
    have hc := run_checkKey (P := P) (w := w) (k := k[j]) em d hu
    rw [List.forIn_cons];simp only [h3, not_false_eq_true, if_true, ne_eq, bind_assoc, Sem.run_bind, hp, hc, Result.andThen_ok, pure_bind];exact ih
theorem run_checkS {P : Program} {w : World} {kt : TypeId} {n : Nat} {k : List Int} (hk : KeyS P kt n) (hn : k.length = n) (em : Bool) : (Instr.checkKey em 10000 kt (aggI k)).run P w = .ok () w := by
  obtain ⟨fs, hu, hs, hf⟩ := intsP_of hk.i
  have h := run_checkFlds (P := P) (w := w) em 9998 k fs.toList 0 hf (by simp [hs, hn])
  rw [show (10000 : Nat) = 9999 + 1 from rfl, Instr.checkKey]
  simp only [Sem.run_bind, run_underlying hu, Result.andThen_ok, ← Array.forIn_toList];rw [h]
  rfl
theorem sameBits_agg (k : List Int) : Instr.sameBits 10000 (aggI k) (aggI k) = true := by
  have h : ∀ l : List Int, ((l.map int).zip (l.map int)).all (fun p => Instr.sameBits 9999 p.1 p.2) = true := by
    intro l
    induction l with
    | nil => rfl
    | cons x l ih =>
      simp only [List.map_cons, List.zip_cons_cons, List.all_cons, ih, Bool.and_true]
      simp [Instr.sameBits]
  have h2 := h k
  simp only [aggI];unfold Instr.sameBits;simp only [beq_self_eq_true, Bool.true_and];exact h2
end Go.Eng
namespace Go.Ev
open Go.Eng
noncomputable section
abbrev Fr:=Tr Value
inductive AO where
  | cells (c:List Value) (t:TypeId)
  | map (es:List MapEntry) (clock:Nat)
  | loop (st:LoopState) (pd:Option Code) (fn:FuncId) (fr:Fr) (M:Nat) (ps:Array Tmp) (asg body:Code)
  | mark
structure AH where
  next:Nat
  m:Tr AO
def AH.get (h:AH) (i:Nat):Option AO:=h.m.get i
def AH.put (h:AH) (i:Nat) (o:Option AO):Option AH:=Option.rec none (fun m=>some ⟨h.next,m⟩) (Tr.put 16 h.m i o)
def AH.new (h:AH) (o:AO):Option AH:=Option.rec none (fun m=>Option.rec none (fun n=>some ⟨n,m⟩) (fN (h.next+1))) (Tr.put 16 h.m h.next (some o))
def putF (M:Nat) (f:Fr) (d:Option Tmp) (v:Value):Option Fr:=
  Option.rec (some f) (fun d=>Bool.rec none (Option.rec none (fun v'=>Tr.put 10 f d (some v')) (fV v)) (Nat.blt d M)) d
/-! short words -/
inductive Od where
  | t (n:Nat)
  | c (v:Value)
inductive Mi where
  | not (x:Od)
  | pick (c a b:Od)
  | ext (x:Od) (i:Nat)
  | nck (x:Od)
  | mkf (f:FuncId) (xs cs:List Od)
  | part (x:Od) (o:Nat) (n:Option Nat)
  | ixa (x y:Od) (n s:Nat) (a:Bool)
  | cut (x:Od) (lo hi mx:Option Od) (s:Nat)
  | acu (x:Od) (n:Nat)
  | bld (zs:List Value) (ps:List (Nat × Nat × Od))
  | len (x:Od)
  | cnv (k:IntKind) (x:Od)
  | nil (k:Nat) (ne:Bool) (x y:Od)
  | b2s (x:Od)
  | lkp (z:Value) (ok:Bool) (x k:Od) (n:Nat)
  | gen (f:Fr→Option Value)
inductive Wr where
  | alc (t:TypeId) (zs:List Value)
  | box (t:TypeId) (x:Od)
  | bsl (t:TypeId) (n s:Nat) (zs:List Value) (ps:List (Nat × Nat × Od))
  | mks (t:TypeId) (s b:Nat) (zs:List Value) (l c:Od)
  | mkm
  | app (t:TypeId) (s b:Nat) (x y:Od)
  | cpy (s:Nat) (x y:Od)
  | clr (s:Nat) (zs:List Value) (x:Od)
  | s2b (t:TypeId) (x:Od)
  | mup (m k v:Od) (n:Nat)
inductive In where
  | mv (x:Od)
  | bin (op:BinOp) (x y:Od)
  | ld1 (x:Od)
  | ldn (x:Od) (n:Nat)
  | fld (x:Od) (k:Nat)
  | idx (a:Option Nat) (x y:Od) (s:Nat)
  | st (x y:Od) (n:Nat)
  | call (f:Od) (xs:List Od)
  | mi (i:Mi)
  | wr (i:Wr)
structure Op1 where
  g:Option (Nat × Bool)
  d:Option Nat
  i:In
def evX (fr:Fr):Operand→Option Value
  | .tmp t=>fr.get t
  | .const v=>some v
  | .global _=>none
  | .func f=>some (.func (.func f) #[] #[])
def rdX (fr:Fr) (x:Operand):Value:=(evX fr x).getD undef
def allFlat (fr:Fr) (o:Op):Bool:=o.operands.toList.all fun x=>match evX fr x with
  | some v=>flat v
  | none=>false
def runP (P:Program) {α:Type}:Sem α→Option α
  | .pure a=>some a
  | .program k=>runP P (k P)
  | .mark _ k=>runP P k
  | _=>none
def valO:Option Next→Option Value
  | some (.value v)=>bif flat v then some v else none
  | _=>none
def genF (P:Program) (o:Oper) (fr:Fr):Option Value:=bif allFlat fr o.op then valO (runP P (execOp (rdX fr) o)) else none
def odOf:Operand→Option Od
  | .tmp t=>some (.t t)
  | .const v=>bif flat v then some (.c v) else none
  | .global _=>none
  | .func f=>some (.c (.func (.func f) #[] #[]))
def odsOf:List Operand→Option (List Od)
  | []=>some []
  | x::xs=>match odOf x,odsOf xs with
    | some v,some vs=>some (v::vs)
    | _,_=>none
def odO:Option Operand→Option (Option Od)
  | none=>some none
  | some x=>match odOf x with
    | some v=>some (some v)
    | none=>none
def plcS (P:Program) (fs:List Field):List (Nat × Operand)→Option (List (Nat × Nat × Od))
  | []=>some []
  | (i,x)::r=>match fs[i]?,odOf x,plcS P fs r with
    | some f,some v,some l=>match szP P f.type with
      | some s=>some ((f.offset,s,v)::l)
      | none=>none
    | _,_,_=>none
def plcA (s:Nat):List (Nat × Operand)→Option (List (Nat × Nat × Od))
  | []=>some []
  | (i,x)::r=>match odOf x,plcA s r with
    | some v,some l=>some ((i*s,s,v)::l)
    | _,_=>none
def zsP (P:Program) (t:TypeId):Option (List Value):=match zeroP P t with
  | some z=>bif flat z then some z.cells.toList else none
  | none=>none
def nilK (P:Program) (t:TypeId):Nat:=match P.underlying t with
  | some (.pointer _)=>1
  | some (.slice _)=>2
  | some (.func ..)=>3
  | some (.int _)|some .string=>4
  | _=>0
def binK (op:BinOp):Bool:=match op with
  | .eql | .neq=>true
  | _=>false
def inBin (P:Program) (o:Oper) (op:BinOp) (t:TypeId) (x y:Od):Option In:=
  bif binK op then match nilK P t with
    | 0=>some (.mi (.gen (genF P o)))
    | 4=>some (.bin op x y)
    | k=>some (.mi (.nil k (match op with | .neq=>true|_=>false) x y))
  else some (.bin op x y)
def inLen (P:Program) (o:Oper) (x:Od) (t:TypeId):Option In:=match P.underlying t with
  | some (.slice _)=>some (.mi (.len x))
  | some .string=>some (.mi (.gen (genF P o)))
  | _=>none
def inCallV (f:Operand) (xs:Option (List Od)):Option In:=match xs,odOf f with
  | some xs,some f=>some (.call f xs)
  | _,_=>none
def inCallB (P:Program) (o:Oper) (b:Builtin) (xs:Option (List Od)) (ts:List TypeId):Option In:=match b,xs,ts with
  | .len,some [x],[t]=>inLen P o x t
  | .min,some _,_=>some (.mi (.gen (genF P o)))
  | .max,some _,_=>some (.mi (.gen (genF P o)))
  | .append,some [x,y],[t,u]=>match P.underlying t,P.underlying u with
    | some (.slice e),some (.slice _)|some (.slice e),some .string=>match szP P e,bytesP P e,zsP P e with
      | some s,some b,some zs=>bif zs.length.beq s then some (.wr (.app e s b x y)) else none
      | _,_,_=>none
    | _,_=>none
  | .copy,some [x,y],[t,_]=>match P.underlying t with
    | some (.slice e)=>match szP P e with
      | some s=>some (.wr (.cpy s x y))
      | none=>none
    | _=>none
  | .clear,some [x],[t]=>match P.underlying t with
    | some (.slice e)=>match szP P e,zsP P e with
      | some s,some zs=>bif zs.length.beq s then some (.wr (.clr s zs x)) else none
      | _,_=>none
    | _=>none
  | _,_,_=>none
def inCall (P:Program) (o:Oper) (c:Call):Option In:=match c.callee with
  | .value f=>inCallV f (odsOf c.args.toList)
  | .builtin b=>inCallB P o b (odsOf c.args.toList) c.argTypes.toList
  | .invoke ..=>none
def inConv (P:Program) (o:Oper) (s d:TypeId) (x:Od):Option In:=match P.underlying s,P.underlying d with
  | some (.int _),some (.int k)=>some (.mi (.cnv k x))
  | some .string,some .string=>some (.mi (.gen (genF P o)))
  | some .string,some (.slice e)=>match P.underlying e,szP P e with
    | some (.int .u8),some 1=>some (.wr (.s2b e x))
    | _,_=>none
  | some (.slice e),some .string=>match P.underlying e with
    | some (.int .u8)=>some (.mi (.b2s x))
    | _=>none
  | _,_=>none
def keyN (P:Program) (kt:TypeId):Option Nat:=match P.underlying kt with
  | some (.int _)=>some 0
  | some (.struct fs)=>match fs.size with
    | 0=>none
    | n+1=>match intsP P kt (n+1) && !P.stoodInHeld kt with
      | true=>some (n+1)
      | false=>none
  | _=>none
def inOf (P:Program) (o:Oper):Option In:=match o.op with
  | .move x | .assign x=>(odOf x).map .mv
  | .binOp op t x y _=>match odOf x,odOf y with
    | some x,some y=>inBin P o op t x y
    | _,_=>none
  | .load t x=>match odOf x,aggP P t,szP P t with
    | some x,some false,some 1=>some (.ld1 x)
    | some x,some true,some n=>some (.ldn x n)
    | _,_,_=>none
  | .fieldAddr s x f=>match odOf x,fldP P s f with
    | some x,some k=>some (.fld x k)
    | _,_=>none
  | .indexAddr t x y=>match odOf x,odOf y,P.underlying t with
    | some x,some y,some (.slice e)=>match szP P e with
      | some s=>some (.idx none x y s)
      | none=>none
    | some x,some y,some (.array n e)=>match szP P e with
      | some s=>some (.idx (some n) x y s)
      | none=>none
    | _,_,_=>none
  | .store t x y=>match odOf x,odOf y,szP P t with
    | some x,some y,some n=>some (.st x y n)
    | _,_,_=>none
  | .call c=>inCall P o c
  | .unOp op _ x=>match op,odOf x with
    | .not,some x=>some (.mi (.not x))
    | .neg,some _=>some (.mi (.gen (genF P o)))
    | _,_=>none
  | .pick c a b=>match odOf c,odOf a,odOf b with
    | some c,some a,some b=>some (.mi (.pick c a b))
    | _,_,_=>none
  | .extract x i=>(odOf x).map fun x=>.mi (.ext x i)
  | .nilCheck x=>(odOf x).map fun x=>.mi (.nck x)
  | .makeFunc (.func f) xs cs=>match odsOf xs.toList,odsOf cs.toList with
    | some xs,some cs=>some (.mi (.mkf f xs cs))
    | _,_=>none
  | .field t x f=>match odOf x,P.underlying t with
    | some x,some (.struct fs)=>match fs[f]? with
      | some g=>match aggP P g.type,szP P g.type with
        | some true,some n=>some (.mi (.part x g.offset (some n)))
        | some false,some 1=>some (.mi (.part x g.offset none))
        | _,_=>none
      | none=>none
    | _,_=>none
  | .index t x y=>match odOf x,odOf y,P.underlying t with
    | some x,some y,some (.array n e)=>match aggP P e,szP P e with
      | some a,some s=>some (.mi (.ixa x y n s a))
      | _,_=>none
    | some _,some _,some .string=>some (.mi (.gen (genF P o)))
    | _,_,_=>none
  | .slice t x lo hi mx=>match odOf x,odO lo,odO hi,odO mx with
    | some x,some lo,some hi,some mx=>match P.underlying t with
      | some (.slice e)=>match szP P e with
        | some s=>some (.mi (.cut x lo hi mx s))
        | none=>none
      | some (.array n e)=>match lo,hi,mx,szP P e with
        | none,none,none,some _=>some (.mi (.acu x n))
        | _,_,_,_=>none
      | some .string=>match mx with
        | none=>some (.mi (.gen (genF P o)))
        | some _=>none
      | _=>none
    | _,_,_,_=>none
  | .build t ps=>match P.underlying t,zsP P t with
    | some (.struct fs),some zs=>bif fs.toList.all (fun f=>(szP P f.type).isSome) then (plcS P fs.toList ps.toList).map fun l=>.mi (.bld zs l) else none
    | some (.array _ e),some zs=>match szP P e with
      | some s=>(plcA s ps.toList).map fun l=>.mi (.bld zs l)
      | none=>none
    | _,_=>none
  | .convert s d x=>match odOf x with
    | some x=>inConv P o s d x
    | none=>none
  | .lookup t x k ok=>match odOf x,odOf k,P.underlying t with
    | some x,some k,some (.map kt e)=>match keyN P kt,zeroP P e with
      | some n,some z=>bif flat z then some (.mi (.lkp z ok x k n)) else none
      | _,_=>none
    | _,_,_=>none
  | .alloc t=>(zsP P t).map fun zs=>.wr (.alc t zs)
  | .box t x=>(odOf x).map fun x=>.wr (.box t x)
  | .buildSlice t n ps=>match P.underlying t with
    | some (.slice e)=>match szP P e,zsP P e with
      | some s,some zs=>bif zs.length.beq s then (plcA s ps.toList).map fun l=>.wr (.bsl e n s zs l) else none
      | _,_=>none
    | _=>none
  | .makeSlice t l c=>match P.underlying t,odOf l,odOf c with
    | some (.slice e),some l,some c=>match szP P e,bytesP P e,zsP P e with
      | some s,some b,some zs=>bif zs.length.beq s then some (.wr (.mks e s b zs l c)) else none
      | _,_,_=>none
    | _,_,_=>none
  | .makeMap _ none=>some (.wr .mkm)
  | .mapUpdate t m k v | .insert t m k v=>match P.underlying t,odOf m,odOf k,odOf v with
    | some (.map kt _),some m,some k,some v=>match keyN P kt with
      | some n=>some (.wr (.mup m k v n))
      | none=>none
    | _,_,_,_=>none
  | _=>none
def op1 (P:Program) (all:Array Oper) (o:Oper):Option Op1:=
  match o.guard,inOf P o with
  | none,some i=>some ⟨none,o.dst,i⟩
  | some (j,w),some i=>match (all[j]?).bind (·.dst) with
    | some d=>some ⟨some (d,w),o.dst,i⟩
    | none=>none
  | _,none=>none
def op1s (P:Program) (all:Array Oper):List Oper→Option (List Op1)
  | []=>some []
  | o::l=>match op1 P all o,op1s P all l with
    | some x,some y=>some (x::y)
    | _,_=>none
end
end Go.Ev
namespace Go.Ev
open Go.Eng
noncomputable section
def evO (fr:Fr) (x:Od):Option Value:=Od.rec (fun n=>fr.get n) (fun v=>some v) x
def evOs (fr:Fr) (l:List Od):Option (List Value):=
  List.rec (some []) (fun x _ ih=>Option.rec none (fun v=>Option.rec none (fun vs=>some (v::vs)) ih) (evO fr x)) l
def natOf:Option Value→Option Nat
  | some (.int _ (.ofNat n))=>some n
  | _=>none
def natI:Option Value→Option Nat
  | some (.int .i64 (.ofNat n))=>some n
  | _=>none
def lt1 (c:Nat):Bool:=Nat.blt c big
def lt2 (c:Nat):Bool:=Nat.blt c big2
def kcap (c:Nat):Nat:=bif lt1 c then c else bif lt2 c then sub1 c else 0
def getC (l:List Value):Nat→Option Value:=
  List.rec (fun _=>none) (fun v _ ih n=>Bool.rec (ih (n-1)) (some v) (n.beq 0)) l
def takeC (n:Nat):List Value→Option (List Value):=
  Nat.rec (fun _=>some []) (fun _ ih l=>List.rec none (fun v l _=>Option.rec none (fun r=>some (v::r)) (ih l)) l) n
def dropC (n:Nat):List Value→Option (List Value):=
  Nat.rec (fun l=>some l) (fun _ ih l=>List.rec none (fun _ l _=>ih l) l) n
def takeO (n:Option (List Value)) (f:List Value→Option (List Value)):Option (List Value):=match n with
  | some l=>f l
  | none=>none
def loadN (h:AH) (i o n:Nat):Option (List Value):=match h.get i with
  | some (.cells c _)=>takeO (dropC o c) (takeC n)
  | _=>none
def isAgg1:Value→Bool
  | .agg _ | .tuple _=>true
  | _=>false
def overC (vs:List Value):List Value→Option (List Value):=
  List.rec (fun l=>some l) (fun v _ ih l=>List.rec none (fun _ l _=>Bool.rec (Option.rec none (fun r=>some (v::r)) (ih l)) none (isAgg1 v)) l) vs
def setC (n:Nat) (vs:List Value):List Value→Option (List Value):=
  Nat.rec (fun l=>overC vs l) (fun _ ih l=>List.rec none (fun v l _=>Option.rec none (fun r=>some (v::r)) (ih l)) l) n
def storeN (h:AH) (i o:Nat) (vs:List Value):Option AH:=match h.get i with
  | some (.cells c t)=>match setC o vs c with
    | some l=>h.put i (some (.cells l t))
    | none=>none
  | _=>none
def cl:Value→List Value
  | .agg ⟨l⟩=>l
  | v=>[v]
def kB:IntKind→IntKind→Bool
  | .i8,.i8 | .i16,.i16 | .i32,.i32 | .i64,.i64 | .u8,.u8 | .u16,.u16 | .u32,.u32 | .u64,.u64=>true
  | _,_=>false
def half:IntKind→Nat
  | .i8=>128 | .i16=>32768 | .i32=>2147483648 | .i64=>9223372036854775808
  | .u8=>256 | .u16=>65536 | .u32=>4294967296 | .u64=>18446744073709551616
def wr (k:IntKind) (n:Int):Int:=Int.rec (fun m=>Bool.rec (IntKind.wrap k n) (.ofNat m) (Nat.blt m (half k))) (fun _=>IntKind.wrap k n) n
def quoI (k:IntKind):Int→Int→Option Value
  | .ofNat a,.ofNat b=>bif b.beq 0 then none else some (.int k (wr k (.ofNat (a / b))))
  | _,_=>none
def remI (k:IntKind):Int→Int→Option Value
  | .ofNat a,.ofNat b=>bif b.beq 0 then none else some (.int k (.ofNat (a % b)))
  | _,_=>none
def shlI (k:IntKind) (m:Int):Int→Option Value
  | .ofNat b=>some (.int k (wr k (m*2 ^ (Nat.min b k.bits))))
  | _=>none
def shrI (k:IntKind):Int→Int→Option Value
  | .ofNat a,.ofNat b=>some (.int k (.ofNat (a / 2 ^ (Nat.min b k.bits))))
  | _,_=>none
def bitI (f:Nat→Nat→Nat) (k:IntKind) (m n:Int):Option Value:=
  Int.rec (fun a=>Int.rec (fun b=>Bool.rec none (some (.int k (.ofNat (f a b)))) (Nat.blt a (half k) && Nat.blt b (half k))) (fun _=>none) n) (fun _=>none) m
def beI:Int→Int→Bool
  | .ofNat a,.ofNat b=>a.beq b
  | .negSucc a,.negSucc b=>a.beq b
  | _,_=>false
def ltI:Int→Int→Bool
  | .ofNat a,.ofNat b=>Nat.blt a b
  | .negSucc a,.negSucc b=>Nat.blt b a
  | .negSucc _,.ofNat _=>true
  | .ofNat _,.negSucc _=>false
def bv (b:Bool):Option Value:=some (.bool b)
def binI (op:BinOp) (k:IntKind) (m n:Int):Option Value:=match op with
  | .add=>some (.int k (wr k (m+n)))
  | .sub=>some (.int k (wr k (m-n)))
  | .mul=>some (.int k (wr k (m*n)))
  | .eql=>bv (beI m n)
  | .neq=>bv (!beI m n)
  | .lss=>bv (ltI m n)
  | .leq=>bv (!ltI n m)
  | .gtr=>bv (ltI n m)
  | .geq=>bv (!ltI m n)
  | .quo=>quoI k m n
  | .rem=>remI k m n
  | .and=>bitI Nat.land k m n
  | .or=>bitI Nat.lor k m n
  | .xor=>bitI Nat.xor k m n
  | _=>none
def beB:List UInt8→List UInt8→Bool
  | [],[]=>true
  | a::l,b::m=>a.toNat.beq b.toNat && beB l m
  | _,_=>false
def catS (s t:ByteArray):Option Value:=match fB (s.data.toList ++ t.data.toList) with
  | some l=>bif Nat.blt l.length 9000000000000000000 then some (.string ⟨⟨l⟩⟩) else none
  | none=>none
def shO (op:BinOp):Nat:=match op with
  | .shl=>1
  | .shr=>2
  | _=>0
def binS (op:BinOp) (s t:ByteArray):Option Value:=match op with
  | .add=>catS s t
  | .eql=>bv (beB s.data.toList t.data.toList)
  | .neq=>bv (!beB s.data.toList t.data.toList)
  | _=>none
def evBI (op:BinOp) (k:IntKind) (m:Int):Value→Option Value
  | .int k' n=>match shO op with
    | 0=>bif kB k k' then binI op k m n else none
    | 1=>shlI k m n
    | _=>shrI k m n
  | _=>none
def evBS (op:BinOp) (s:ByteArray):Value→Option Value
  | .string t=>binS op s t
  | _=>none
def evBin (op:BinOp) (u v:Value):Option Value:=match u with
  | .int k m=>evBI op k m v
  | .string s=>evBS op s v
  | _=>none
def evNil (k:Nat):Value→Value→Option Bool
  | .pointer none,.pointer b=>bif k.beq 1 then some b.isNone else none
  | .pointer (some _),.pointer none=>bif k.beq 1 then some false else none
  | .slice none _ _,.slice b _ _=>bif k.beq 2 then some b.isNone else none
  | .slice (some _) _ _,.slice none _ _=>bif k.beq 2 then some false else none
  | .nilFunc,.nilFunc=>bif k.beq 3 then some true else none
  | .nilFunc,.func ..=>bif k.beq 3 then some false else none
  | .func ..,.nilFunc=>bif k.beq 3 then some false else none
  | _,_=>none
def at? (a:Option Addr) (k:Nat):Option Addr:=match a with
  | some ⟨i,o,s⟩=>some ⟨i,o+k,s⟩
  | none=>none
def cut3 (a:Option Addr) (s l h m:Nat):Option Value:=
  bif Nat.ble l h && Nat.ble h m then some (.slice (bif Nat.beq m l then a else at? a (l*s)) (h-l) (m-l)) else none
def cutE (a:Option Addr) (c s l h:Nat):Option Value:=match a with
  | none=>bif lt1 c then some (.slice none (h-l) 0) else none
  | some a=>bif lt1 c then some (.slice (some a) (h-l) 0)
    else bif lt2 c then (bif lt2 (l*s) then some (.slice (some a) 0 (big2+l*s)) else none)
    else some (.slice (some a) 0 c)
def cut2 (a:Option Addr) (c s l h:Nat):Option Value:=
  bif Nat.ble l h && Nat.ble h (kcap c) then
    bif Nat.blt l (kcap c) then some (.slice (at? a (l*s)) (h-l) (c-l)) else cutE a c s l h
  else none
def cutO (a:Option Addr) (c s:Nat):Option Nat→Option Nat→Option (Option Nat)→Option Value
  | some l,some h,none=>cut2 a c s l h
  | some l,some h,some (some m)=>bif Nat.ble m (kcap c) && lt2 c then cut3 a s l h m else none
  | _,_,_=>none
def evCut (v:Value) (lo hi mx:Option (Option Value)) (s:Nat):Option Value:=
  match v with
  | .slice a n c=>cutO a c s (match lo with|none=>some 0|some x=>natOf x) (match hi with|none=>some n|some x=>natOf x) (match mx with|none=>none|some x=>bif hi.isSome then some (natOf x) else some none)
  | _=>none
def fillC:List Value→List (Nat × Nat × Value)→Option (List Value)
  | zs,[]=>some zs
  | zs,(o,s,v)::r=>bif Nat.beq (cl v).length s then
      match setC o (cl v) zs with
      | some zs'=>fillC zs' r
      | none=>none
    else none
def evPs (fr:Fr):List (Nat × Nat × Od)→Option (List (Nat × Nat × Value))
  | []=>some []
  | (o,s,x)::r=>match evO fr x,evPs fr r with
    | some v,some l=>some ((o,s,v)::l)
    | _,_=>none
def findK (kk:IntKind) (kn:Int):List MapEntry→Nat→Option (Option (Nat × Value))
  | [],_=>some none
  | m::l,j=>match m.key with
    | .int k n=>bif kB kk k then (bif beI kn n then some (some (j,m.val)) else findK kk kn l (j+1)) else none
    | _=>none
def bytesOf:List Value→Option (List UInt8)
  | []=>some []
  | .int .u8 (.ofNat b)::l=>match bytesOf l with
    | some r=>some (UInt8.ofNat b::r)
    | none=>none
  | _=>none
def miNot:Option Value→Option Value
  | some (.bool b)=>bv (!b)
  | _=>none
def miPick (fr:Fr) (a b:Od):Option Value→Option Value
  | some (.bool true)=>evO fr a
  | some (.bool false)=>evO fr b
  | _=>none
def miExt (i:Nat):Option Value→Option Value
  | some (.tuple ⟨vs⟩)=>getC vs i
  | _=>none
def miNck:Option Value→Option Value
  | some (.pointer (some a))=>some (.pointer (some a))
  | some (.func (.func f) a b)=>some (.func (.func f) a b)
  | some (.func (.yield f) a b)=>some (.func (.yield f) a b)
  | _=>none
def miMkf (f:FuncId):Option (List Value)→Option (List Value)→Option Value
  | some vs,some us=>some (.func (.func f) ⟨vs⟩ ⟨us⟩)
  | _,_=>none
def aggO:Option (List Value)→Option Value
  | some l=>some (.agg ⟨l⟩)
  | none=>none
def miPart (o:Nat) (n:Option Nat):Option Value→Option Value
  | some (.agg ⟨cs⟩)=>match n with
    | some n=>aggO (takeO (dropC o cs) (takeC n))
    | none=>getC cs o
  | _=>none
def miIxa (n s:Nat) (a:Bool) (x:Option Value):Option Nat→Option Value
  | some j=>bif Nat.blt j n then miPart (j*s) (bif a then some s else none) x else none
  | none=>none
def miCut (lo hi mx:Option (Option Value)) (s:Nat):Option Value→Option Value
  | some v=>evCut v lo hi mx s
  | none=>none
def miAcu (n:Nat):Option Value→Option Value
  | some (.pointer (some ⟨i,o,none⟩))=>bif Nat.blt n big then some (.slice (some ⟨i,o,none⟩) n n) else none
  | _=>none
def strO:Option (List UInt8)→Option Value
  | some l=>some (.string ⟨⟨l⟩⟩)
  | none=>none
def miBld (zs:List Value):Option (List (Nat × Nat × Value))→Option Value
  | some l=>aggO (fillC zs l)
  | none=>none
def miLen:Option Value→Option Value
  | some (.slice _ n _)=>some (.int .i64 (.ofNat n))
  | _=>none
def miCnv (k:IntKind):Option Value→Option Value
  | some (.int _ n)=>some (.int k (wr k n))
  | _=>none
def neB (ne:Bool):Option Bool→Option Value
  | some b=>bv (bif ne then !b else b)
  | none=>none
def miNil (k:Nat) (ne:Bool):Option Value→Option Value→Option Value
  | some u,some v=>neB ne (evNil k u v)
  | _,_=>none
def bytesO:Option (List Value)→Option (List UInt8)
  | some l=>bytesOf l
  | none=>none
def miB2s (h:AH):Option Value→Option Value
  | some (.slice (some ⟨i,o,none⟩) n _)=>strO (bytesO (loadN h i o n))
  | some (.slice none _ _)=>some (.string ⟨⟨[]⟩⟩)
  | _=>none
def intV:Value→Option Int
  | .int .i64 n=>some n
  | _=>none
def intsV:List Value→Option (List Int)
  | []=>some []
  | v::l=>match intV v,intsV l with
    | some n,some r=>some (n::r)
    | _,_=>none
def eqI:List Int→List Int→Bool
  | [],[]=>true
  | a::l,b::m=>beI a b && eqI l m
  | _,_=>false
def findS (k:List Int) (n:Nat):List MapEntry→Nat→Option (Option (Nat × Value))
  | [],_=>some none
  | m::l,j=>match m.key with
    | .agg ⟨a⟩=>match intsV a with
      | some b=>bif b.length.beq n then (bif eqI k b then some (some (j,m.val)) else findS k n l (j+1)) else none
      | none=>none
    | _=>none
def findA (n:Nat) (k:Value) (es:List MapEntry):Option (Option (Nat × Value)):=match n,k with
  | 0,.int kk kn=>findK kk kn es 0
  | m+1,.agg ⟨a⟩=>match intsV a with
    | some b=>bif b.length.beq (m+1) then findS b (m+1) es 0 else none
    | none=>none
  | _,_=>none
def lkpR (z:Value) (ok:Bool):Option (Option (Nat × Value))→Option Value
  | some (some (_,v))=>some (bif ok then .tuple ⟨[v,.bool true]⟩ else v)
  | some none=>some (bif ok then .tuple ⟨[z,.bool false]⟩ else z)
  | none=>none
def miLkp (h:AH) (z:Value) (ok:Bool) (n:Nat):Option Value→Option Value→Option Value
  | some (.map (some r)),some k=>match h.get r with
    | some (.map es _)=>lkpR z ok (findA n k es)
    | _=>none
  | _,_=>none
def evMi (fr:Fr) (h:AH):Mi→Option Value
  | .not x=>miNot (evO fr x)
  | .pick c a b=>miPick fr a b (evO fr c)
  | .ext x i=>miExt i (evO fr x)
  | .nck x=>miNck (evO fr x)
  | .mkf f xs cs=>miMkf f (evOs fr xs) (evOs fr cs)
  | .part x o n=>miPart o n (evO fr x)
  | .ixa x y n s a=>miIxa n s a (evO fr x) (natOf (evO fr y))
  | .cut x lo hi mx s=>miCut (lo.map (evO fr)) (hi.map (evO fr)) (mx.map (evO fr)) s (evO fr x)
  | .acu x n=>miAcu n (evO fr x)
  | .bld zs ps=>miBld zs (evPs fr ps)
  | .len x=>miLen (evO fr x)
  | .cnv k x=>miCnv k (evO fr x)
  | .nil k ne x y=>miNil k ne (evO fr x) (evO fr y)
  | .b2s x=>miB2s h (evO fr x)
  | .lkp z ok x k n=>miLkp h z ok n (evO fr x) (evO fr k)
  | .gen f=>f fr
def mkS (n:Nat) (e:TypeId) (h:AH):Option (List Value)→Option (Value × AH)
  | some l=>match h.new (.cells l e) with
    | some h'=>some (.slice (some ⟨h.next,0,none⟩) n (big+n),h')
    | none=>none
  | none=>none
def catC (a b:List Value):Option (List Value):=List.rec (some b) (fun v _ ih=>Option.rec none (fun l=>some (v::l)) ih) a
def catO (b:List Value):Option (List Value)→Option (List Value)
  | some a=>catC a b
  | none=>none
def appI (h:AH) (s:Nat) (a:Option Addr) (n c m:Nat) (news:List Value):Option (Value × AH):=match a with
  | some ⟨i,o,none⟩=>match storeN h i (o+n*s) news with
    | some h'=>some (.slice a (n+m) c,h')
    | none=>none
  | _=>bif m.beq 0 then some (.slice a n c,h) else none
def appN (h:AH) (e:TypeId) (s:Nat) (a:Option Addr) (n m:Nat) (news:List Value):Option (Value × AH):=match a with
  | some ⟨i,o,none⟩=>mkS (n+m) e h (catO news (loadN h i o (n*s)))
  | none=>bif n.beq 0 then mkS (n+m) e h (some news) else none
  | _=>none
def appU (h:AH) (e:TypeId) (a:Option Addr) (k n m:Nat) (news:List Value):Option (Value × AH):=match a with
  | some ⟨i,o,none⟩=>match h.get i with
    | some (.cells cs t)=>bif Nat.beq t e && Nat.beq (o+k) cs.length then match h.put i none with
        | some h1=>mkS (n+m) e h1 (catO news (dropC o cs))
        | none=>none
      else none
    | _=>none
  | _=>none
def evApp (h:AH) (e:TypeId) (s by_:Nat) (v:Value) (m:Nat) (news:List Value):Option (Value × AH):=match v with
  | .slice a n c=>bif !(Nat.ble ((n+m)*by_) 70368744177664 && Nat.ble (n+m) 70368744177664) then none else bif Nat.ble (n+m) (kcap c) then appI h s a n c m news
    else bif lt1 c then appN h e s a n m news
    else bif lt2 c then (bif Nat.beq n (sub1 c) then appU h e a (n*s) n m news else none)
    else match a with
      | some ⟨i,o,sp⟩=>appU h e (some ⟨i,o+(sub2 c),sp⟩) 0 0 m news
      | none=>none
  | _=>none
def bytesV:List UInt8→List Value
  | []=>[]
  | b::l=>.int .u8 (.ofNat b.toNat)::bytesV l
def behind (h:AH) (s:Nat):Value→Option (Nat × List Value)
  | .slice (some ⟨i,o,none⟩) n _=>match loadN h i o (n*s) with
    | some l=>some (n,l)
    | none=>none
  | .slice none n _=>bif n.beq 0 then some (0,[]) else none
  | .string b=>bif s.beq 1 then match fL1 (bytesV b.data.toList) with
    | some l=>some (b.data.toList.length,l)
    | none=>none else none
  | _=>none
def rep (zs:List Value):Nat→List Value
  | 0=>[]
  | n+1=>zs ++ rep zs n
def setN (v:Value) (k:Value):Nat→List MapEntry→Option (List MapEntry)
  | _,[]=>none
  | 0,m::l=>some (⟨k,v,m.born⟩::l)
  | n+1,m::l=>match setN v k n l with
    | some r=>some (m::r)
    | none=>none
def mapSet (n:Nat) (k:Value) (v:Value) (cl:Nat) (es:List MapEntry):Option (List MapEntry × Nat):=match findA n k es with
  | some (some (j,_))=>match setN v k j es with
    | some r=>some (r,cl)
    | none=>none
  | some none=>some (es ++ [⟨k,v,cl⟩],cl+1)
  | none=>none
def newC (h:AH) (e:TypeId) (l:List Value):Option (Nat × AH):=match fL1 l with
  | some l=>match h.new (.cells l e) with
    | some h'=>some (h.next,h')
    | none=>none
  | none=>none
def ptrN:Option (Nat × AH)→Option (Value × AH)
  | some (i,h)=>some (.pointer (some ⟨i,0,none⟩),h)
  | none=>none
def slcN (n c:Nat):Option (Nat × AH)→Option (Value × AH)
  | some (i,h)=>some (.slice (some ⟨i,0,none⟩) n c,h)
  | none=>none
def wrBox (h:AH) (t:TypeId):Option Value→Option (Value × AH)
  | some v=>ptrN (newC h t (cl v))
  | none=>none
def fillO (zs:List Value):Option (List (Nat × Nat × Value))→Option (List Value)
  | some l=>fillC zs l
  | none=>none
def wrBsl (h:AH) (t:TypeId) (n s:Nat):Option (List Value)→Option (Value × AH)
  | some cs=>bif Nat.ble (n*s) 16777216 && Nat.blt n big then slcN n n (newC h t cs) else none
  | none=>none
def wrMks (h:AH) (t:TypeId) (b:Nat) (zs:List Value):Option Nat→Option Nat→Option (Value × AH)
  | some l,some c=>bif Nat.ble l c && Nat.ble (b*c) 281474976710656 && Nat.ble c 70368744177664 then slcN l c (newC h t (rep zs c)) else none
  | _,_=>none
def wrMkm (h:AH):Option AH→Option (Value × AH)
  | some h'=>some (.map (some h.next),h')
  | none=>none
def oneAll (l:List Value):Bool:=List.rec true (fun v _ ih=>Bool.rec ih false (isAgg1 v)) l
def appO (h:AH) (e:TypeId) (s by_:Nat) (v:Value):Option (Nat × List Value)→Option (Value × AH)
  | some (m,news)=>bif oneAll news then evApp h e s by_ v m news else none
  | none=>none
def wrApp (h:AH) (e:TypeId) (s by_:Nat):Option Value→Option Value→Option (Value × AH)
  | some v,some y=>appO h e s by_ v (behind h s y)
  | _,_=>none
def stO (h:AH) (i o:Nat) (v:Value):Option (List Value)→Option (Value × AH)
  | some l=>match storeN h i o l with
    | some h'=>some (v,h')
    | none=>none
  | none=>none
def cpyO (h:AH) (s:Nat) (a:Option Addr) (n:Nat):Option (Nat × List Value)→Option (Value × AH)
  | some (m,news)=>match a with
    | some ⟨i,o,none⟩=>stO h i o (.int .i64 (.ofNat (Nat.min m n))) (takeC (Nat.min m n*s) news)
    | none=>some (.int .i64 (.ofNat (Nat.min m n)),h)
    | _=>none
  | none=>none
def wrCpy (h:AH) (s:Nat):Option Value→Option Value→Option (Value × AH)
  | some (.slice a n _),some y=>cpyO h s a n (behind h s y)
  | _,_=>none
def wrClr (h:AH) (zs:List Value):Option Value→Option (Value × AH)
  | some (.slice a n _)=>bif n.beq 0 then some (.tuple ⟨[]⟩,h) else match a with
    | some ⟨i,o,none⟩=>stO h i o (.tuple ⟨[]⟩) (some (rep zs n))
    | _=>none
  | _=>none
def wrS2b (h:AH) (e:TypeId):Option Value→Option (Value × AH)
  | some (.string s)=>bif Nat.blt s.data.toList.length big then slcN s.data.toList.length (big+s.data.toList.length) (newC h e (bytesV s.data.toList)) else none
  | _=>none
def mupO (h:AH) (r:Nat):Option (List MapEntry × Nat)→Option (Value × AH)
  | some (es,c)=>match h.put r (some (.map es c)) with
    | some h'=>some (undef,h')
    | none=>none
  | none=>none
def wrMup (h:AH) (n:Nat):Option Value→Option Value→Option Value→Option (Value × AH)
  | some (.map (some r)),some k,some v=>match h.get r with
    | some (.map es c)=>mupO h r (mapSet n k v c es)
    | _=>none
  | _,_,_=>none
def evWr (fr:Fr) (h:AH):Wr→Option (Value × AH)
  | .alc t zs=>ptrN (newC h t zs)
  | .box t x=>wrBox h t (evO fr x)
  | .bsl t n s zs ps=>wrBsl h t n s (fillO (rep zs n) (evPs fr ps))
  | .mks t _ b zs l c=>wrMks h t b zs (natI (evO fr l)) (natI (evO fr c))
  | .mkm=>wrMkm h (h.new (.map [] 0))
  | .app e s b x y=>wrApp h e s b (evO fr x) (evO fr y)
  | .cpy s x y=>wrCpy h s (evO fr x) (evO fr y)
  | .clr _ zs x=>wrClr h zs (evO fr x)
  | .s2b e x=>wrS2b h e (evO fr x)
  | .mup m k v n=>wrMup h n (evO fr m) (evO fr k) (evO fr v)
abbrev CallF:=FuncId→List Value→AH→Option (Value × AH)
abbrev YF:=Nat→List Value→AH→Option (Value × AH)
def evCall (cf:CallF) (yf:YF) (h:AH) (f:Option Value) (vs:Option (List Value)):Option (Value × AH):=match f,vs with
  | some (.func (.func g) ⟨us⟩ ⟨cs⟩),some vs=>cf g (us ++ vs ++ cs) h
  | some (.func (.yield g) ⟨[]⟩ _),some vs=>yf g vs h
  | _,_=>none
def ret1 (h:AH):Option Value→Option (Value × AH)
  | some v=>some (v,h)
  | none=>none
def ldO (o:Nat) (n:Option Nat):Option AO→Option Value
  | some (.cells c _)=>match n with
    | some n=>aggO (takeO (dropC o c) (takeC n))
    | none=>getC c o
  | _=>none
def evLd (h:AH) (n:Option Nat):Option Value→Option Value
  | some (.pointer (some ⟨i,o,none⟩))=>ldO o n (h.get i)
  | _=>none
def evFld (k:Nat):Option Value→Option Value
  | some (.pointer (some ⟨i,o,none⟩))=>some (.pointer (some ⟨i,o+k,none⟩))
  | _=>none
def binO (op:BinOp):Option Value→Option Value→Option Value
  | some u,some v=>evBin op u v
  | _,_=>none
def evIdx (a:Option Nat) (s:Nat) (x y:Option Value):Option Value:=match a,x,natOf y with
  | none,some (.slice (some ⟨i,o,none⟩) n _),some j=>bif Nat.blt j n then some (.pointer (some ⟨i,o+j*s,none⟩)) else none
  | some n,some (.pointer (some ⟨i,o,none⟩)),some j=>bif Nat.blt j n then some (.pointer (some ⟨i,o+j*s,none⟩)) else none
  | _,_,_=>none
def evSt (h:AH) (n:Nat) (x y:Option Value):Option (Value × AH):=match x,y with
  | some (.pointer (some ⟨i,o,none⟩)),some v=>bif Nat.beq (cl v).length n then
      match storeN h i o (cl v) with
      | some h'=>some (undef,h')
      | none=>none
    else none
  | _,_=>none
def evQ (fr:Fr) (h:AH):In→Option Value
  | .mv x=>evO fr x
  | .bin op x y=>binO op (evO fr x) (evO fr y)
  | .ld1 x=>evLd h none (evO fr x)
  | .ldn x n=>evLd h (some n) (evO fr x)
  | .fld x k=>evFld k (evO fr x)
  | .idx a x y s=>evIdx a s (evO fr x) (evO fr y)
  | .mi i=>evMi fr h i
  | _=>none
def evIn (cf:CallF) (yf:YF) (fr:Fr) (h:AH) (i:In):Option (Value × AH):=match i with
  | .st x y n=>evSt h n (evO fr x) (evO fr y)
  | .call f xs=>evCall cf yf h (evO fr f) (evOs fr xs)
  | .wr w=>evWr fr h w
  | _=>ret1 h (evQ fr h i)
def want (fr:Fr):Option (Nat × Bool)→Option Bool
  | none=>some true
  | some (d,w)=>match fr.get d with
    | some (.bool b)=>some (b == w)
    | some (.tuple _)=>some false
    | _=>none
def evOps (M:Nat) (ev:Fr→AH→In→Option (Value × AH)) (l:List Op1):Fr→AH→Option (Fr × AH):=
  List.rec (fun fr h=>some (fr,h)) (fun o _ ih fr h=>Option.rec none (fun b=>Bool.rec (Option.rec none (fun fr'=>ih fr' h) (putF M fr o.d undef)) (Option.rec none (fun r=>Option.rec none (fun fr'=>ih fr' r.2) (putF M fr o.d r.1)) (ev fr h o.i)) b) (want fr o.g)) l
structure St where
  fr:Fr
  h:AH
  ms:List Nat
inductive Ex where
  | normal|ret
  | exit (id:Nat)
def evRes (fr:Fr) (h:AH) (P:Program):List ResultVar→Option (List Value)
  | []=>some []
  | .tmp t::r=>match fr.get t,evRes fr h P r with
    | some v,some l=>some (v::l)
    | _,_=>none
  | .cell a t::r=>match aggP P t,szP P t,evRes fr h P r with
    | some true,some n,some l=>match evLd h (some n) (fr.get a) with
      | some v=>some (v::l)
      | none=>none
    | some false,some 1,some l=>match evLd h none (fr.get a) with
      | some v=>some (v::l)
      | none=>none
    | _,_,_=>none
def one:List Value→Value
  | [v]=>v
  | l=>.tuple ⟨l⟩
def frOf (M:Nat):Nat→List Value→Fr→Option Fr
  | _,[],fr=>some fr
  | k,v::l,fr=>match putF M fr (some k) v with
    | some fr'=>frOf M (k+1) l fr'
    | none=>none
def putL (M:Nat):List Tmp→List Value→Fr→Option Fr
  | [],[],fr=>some fr
  | d::ds,v::l,fr=>match putF M fr (some d) v with
    | some fr'=>putL M ds l fr'
    | none=>none
  | _,_,_=>none
def dropMk:List Nat→AH→Option AH
  | [],h=>some h
  | i::l,h=>match h.get i with
    | some .mark=>match h.put i none with
      | some h'=>dropMk l h'
      | none=>none
    | _=>none
/-! a region that draws its order: one order is reckoned; checks that every other order comes to the same -/
structure DOp where
  i:Nat
  ps:List Nat
  pm:Nat
  k:Nat
  rs:List Nat
  q:Op1
def predsO (o:Oper):List Nat:=o.after.toList.filterMap (fun e=>if Region.binds .any e then some e.on else none)
def bit (i:Nat):Nat:=Nat.shiftLeft 1 i
def hasB (m i:Nat):Bool:=Nat.beq (Nat.shiftRight m i % 2) 1
def subB (a b:Nat):Bool:=Nat.beq (Nat.land a b) a
def maskOf (l:List Nat):Nat:=List.rec 0 (fun i _ ih=>Nat.lor (bit i) ih) l
def clsI:In→Nat
  | .st .. | .call ..=>3
  | .wr (.alc ..) | .wr (.box ..) | .wr (.bsl ..)=>2
  | .wr _=>3
  | .ld1 .. | .ldn .. | .mi (.b2s _) | .mi (.lkp ..)=>1
  | _=>0
def dops (P:Program) (all:Array Oper):Nat→List Oper→Option (List DOp)
  | _,[]=>some []
  | i,o::l=>match op1 P all o,fN (i+1) with
    | some q,some i'=>match dops P all i' l with
      | some r=>some (⟨i,predsO o,maskOf (predsO o),clsI q.i,readsOf all o,q⟩::r)
      | none=>none
    | _,_=>none
def slots (l:List DOp):Option (Tr Nat):=
  List.rec (some .e) (fun d _ ih=>Option.rec none (fun t=>Option.rec (some t) (fun s=>Option.rec (Tr.put 12 t s (some d.i)) (fun _=>none) (Tr.get t s)) d.q.d) ih) l
def rdsOK (sl:Tr Nat) (pm:Nat) (rs:List Nat):Bool:=
  List.rec true (fun t _ ih=>Option.rec ih (fun j=>Bool.rec false ih (hasB pm j)) (sl.get t)) rs
def ancOf (an:Tr Nat) (ps:List Nat) (m:Nat):Nat:=
  List.rec m (fun j _ ih=>Option.rec ih (fun x=>Nat.lor x ih) (an.get j)) ps
def ckK (k eff am:Nat):Bool:=match k with
  | 1|3=>subB eff am
  | _=>true
def effK (k:Nat):Bool:=match k with
  | 2|3=>true
  | _=>false
def ckAll (full:Nat) (sl:Tr Nat) (l:List DOp):Nat→Nat→Tr Nat→Option (List (DOp × Nat)):=
  List.rec (fun dn _ _=>Bool.rec none (some []) (Nat.beq dn full)) (fun d _ ih dn eff an =>
    Nat.rec (motive:=fun _=>Option (List (DOp × Nat)))
      (Bool.rec none (Option.rec none (fun an'=>Option.rec none (fun r=>some ((d,ancOf an d.ps d.pm)::r)) (ih (Nat.lor dn (bit d.i)) (Bool.rec eff (Nat.lor eff (bit d.i)) (effK d.k)) an')) (Tr.put 8 an d.i (some (ancOf an d.ps d.pm))))
        (subB d.pm dn && ckK d.k eff (ancOf an d.ps d.pm) && rdsOK sl d.pm d.rs))
      (fun _ _=>none) (Nat.shiftRight dn d.i % 2)) l
/-! an order is looked for -/
def pickD (p:DOp→Bool):List DOp→Option (DOp × List DOp)
  | []=>none
  | d::l=>bif p d then some (d,l) else match pickD p l with
    | some (x,r)=>some (x,d::r)
    | none=>none
def ancAll:List DOp→Tr Nat→Option (Tr Nat)
  | [],an=>some an
  | d::l,an=>match Tr.put 8 an d.i (some (ancOf an d.ps d.pm)) with
    | some an'=>ancAll l an'
    | none=>none
def goalM (an:Tr Nat):List DOp→Option Nat
  | []=>none
  | d::l=>bif Nat.beq d.k 3 then (match an.get d.i with|some m=>some (Nat.lor m (bit d.i))|none=>none) else goalM an l
def ordG (an:Tr Nat):Nat→Nat→List DOp→List DOp
  | 0,_,_=>[]
  | f+1,dn,l=>match pickD (fun d=>subB d.pm dn && Nat.blt d.k 2) l with
    | some (d,r)=>d::ordG an f (Nat.lor dn (bit d.i)) r
    | none=>match pickD (fun d=>subB d.pm dn && match goalM an l with|some m=>hasB m d.i|none=>true) l with
      | some (d,r)=>d::ordG an f (Nat.lor dn (bit d.i)) r
      | none=>[]
def ckO (sl:Option (Tr Nat)) (n:Nat) (l:List DOp):Option (List (DOp × Nat)):=match sl with
  | some sl=>ckAll (Nat.sub (bit n) 1) sl l 0 0 .e
  | none=>none
def drawn2 (l:List DOp):Option (List (DOp × Nat)):=match ancAll l .e with
  | some an=>ckO (slots l) l.length (ordG an l.length 0 l)
  | none=>none
def drawn (l:Option (List DOp)):Option (List (DOp × Nat)):=match l with
  | some l=>match ckO (slots l) l.length l with
    | some r=>some r
    | none=>drawn2 l
  | none=>none
/-! values are the same -/
def beA (a b:Option Addr):Bool:=match a,b with
  | some ⟨i,o,none⟩,some ⟨j,p,none⟩=>Nat.beq i j && Nat.beq o p
  | none,none=>true
  | _,_=>false
def beV1 (u v:Value):Bool:=match u,v with
  | .bool true,.bool true=>true
  | .bool false,.bool false=>true
  | .int k m,.int k' n=>kB k k' && beI m n
  | .string ⟨⟨a⟩⟩,.string ⟨⟨b⟩⟩=>beB a b
  | .pointer a,.pointer b=>beA a b
  | .slice a n c,.slice b m d=>beA a b && Nat.beq n m && Nat.beq c d
  | .map (some a),.map (some b)=>Nat.beq a b
  | .map none,.map none=>true
  | .nilFunc,.nilFunc=>true
  | .nilIface,.nilIface=>true
  | .func (.func f) ⟨[]⟩ ⟨[]⟩,.func (.func g) ⟨[]⟩ ⟨[]⟩=>Nat.beq f g
  | _,_=>false
def beVL:List Value→List Value→Bool
  | [],[]=>true
  | u::l,v::m=>beV1 u v && beVL l m
  | _,_=>false
def beV (u v:Value):Bool:=match u,v with
  | .agg ⟨a⟩,.agg ⟨b⟩=>beVL a b
  | .tuple ⟨a⟩,.tuple ⟨b⟩=>beVL a b
  | _,_=>beV1 u v
def beO (v:Value):Option Value→Bool
  | some u=>beV u v
  | none=>false
structure Wt where
  i:Nat
  fr:Fr
  q:In
  v:Value
def rechk (am:Nat) (h:AH) (ws:List Wt):Option (List Wt):=
  List.rec (some []) (fun x _ ih=>Bool.rec (Bool.rec none (Option.rec none (fun r=>some (x::r)) ih) (beO x.v (evQ x.fr h x.q))) ih (hasB am x.i)) ws
def evDr (M:Nat) (ev:Fr→AH→In→Option (Value × AH)) (l:List (DOp × Nat)):List Wt→Fr→AH→Option (Fr × AH):=
  List.rec (fun _ fr h=>some (fr,h)) (fun d _ ih ws fr h=>Option.rec none (fun b=>Bool.rec
    (Option.rec none (fun fr'=>ih ws fr' h) (putF M fr d.1.q.d undef))
    (Option.rec none (fun r=>Option.rec none (fun fr'=>Bool.rec
        (ih (Bool.rec ws (⟨d.1.i,fr,d.1.q.i,r.1⟩::ws) (Nat.beq d.1.k 1)) fr' r.2)
        (Option.rec none (fun ws'=>ih ws' fr' r.2) (rechk d.2 r.2 ws)) (effK d.1.k)) (putF M fr d.1.q.d r.1)) (ev fr h d.1.q.i)) b) (want fr d.1.q.g)) l
structure Cc where
  fn:FuncId
  M:Nat
  rd:Option Nat
structure Mac where
  c:Cc→Code→St→Option (Ex × St)
  f:CallF
  y:YF
  l:Cc→Code→St→Option (Ex × St)
def stEnd (ms:List Nat):Option (Fr × AH)→Option (Ex × St)
  | some (fr,h)=>some (.normal,⟨fr,h,ms⟩)
  | none=>none
def stReg (M:Nat) (m:Mac) (ops:Option (List Op1)) (s:St):Option (Ex × St):=match ops with
  | some l=>stEnd s.ms (evOps M (evIn m.f m.y) l s.fr s.h)
  | none=>none
def stDr (M:Nat) (m:Mac) (ops:Option (List (DOp × Nat))) (s:St):Option (Ex × St):=match ops with
  | some l=>stEnd s.ms (evDr M (evIn m.f m.y) l [] s.fr s.h)
  | none=>none
def rdH (h:AH):Option Nat→Option AH
  | none=>h.new .mark
  | some l=>match h.get l with
    | some (.loop ..)=>some h
    | _=>none
def exOf (s:St):Option Code→Option (Ex × St)
  | none=>some (.normal,s)
  | some (.exit id)=>some (.exit id,s)
  | some .ret=>some (.ret,s)
  | _=>none
def stRange (m:Mac) (c:Cc) (f:Option Value) (ps:Array Tmp) (asg body:Code) (s:St):Option (Ex × St):=
  match f,rdH s.h c.rd with
  | some (.func (.func gf) ⟨us⟩ ⟨cs⟩),some h1=>match h1.new (.loop .ready none c.fn s.fr c.M ps asg body) with
    | some h2=>match m.f gf (us ++ [.func (.yield h1.next) ⟨[]⟩ ⟨[]⟩] ++ cs) h2 with
      | some (_,h3)=>match h3.get h1.next with
        | some (.loop .busy _ _ _ _ _ _ _)=>none
        | some (.loop _ pd _ _ _ _ _ _)=>match h3.put h1.next none with
            | some h4=>exOf ⟨s.fr,h4,(match c.rd with|none=>s.h.next::s.ms|some _=>s.ms)⟩ pd
            | none=>none
        | _=>none
      | none=>none
    | none=>none
  | _,_=>none
def stC (P:Program) (m:Mac) (cc:Cc) (c:Code) (s:St):Option (Ex × St):=match c with
  | .skip=>some (.normal,s)
  | .region _ ops false=>stReg cc.M m (op1s P ops ops.toList) s
  | .region _ ops true=>stDr cc.M m (drawn (dops P ops 0 ops.toList)) s
  | .seq a b=>match m.c cc a s with
    | some (.normal,s')=>m.c cc b s'
    | r=>r
  | .cond x a b=>match odOf x with
    | some x=>match evO s.fr x with
      | some (.bool true)=>m.c cc a s
      | some (.bool false)=>m.c cc b s
      | _=>none
    | none=>none
  | .block id b=>match m.c cc b s with
    | some (.exit i,s')=>bif Nat.beq i id then some (.normal,s') else some (.exit i,s')
    | r=>r
  | .loop b=>m.l cc b s
  | .exit id=>some (.exit id,s)
  | .ret=>some (.ret,s)
  | .rangeFunc f ps asg body=>match odOf f with
    | some f=>stRange m cc (evO s.fr f) ps asg body s
    | none=>none
  | _=>none
def stL (m:Mac) (cc:Cc) (b:Code) (s:St):Option (Ex × St):=match m.c cc b s with
  | some (.normal,s')=>m.l cc b s'
  | r=>r
def stF (P:Program) (orc:CallF) (m:Mac) (f:FuncId) (vs:List Value) (h:AH):Option (Value × AH):=match orc f vs h with
  | some r=>some r
  | none=>match P.funcs[f]? with
    | some fn=>match fn.body,frOf fn.ntmps 0 vs .e with
      | some c,some fr=>match m.c ⟨f,fn.ntmps,none⟩ c ⟨fr,h,[]⟩ with
        | some (.exit _,_)=>none
        | some (_,s)=>match dropMk s.ms s.h with
          | some h'=>match evRes s.fr h' P fn.results.toList with
            | some l=>some (one l,h')
            | none=>none
          | none=>none
        | none=>none
      | _,_=>none
    | none=>none
def endL (e:Ex):Option AO→Option AO
  | some (.loop _ _ g fr M ps asg body)=>match e with
    | .normal=>some (.loop .ready none g fr M ps asg body)
    | .exit id=>some (.loop .done (some (.exit id)) g fr M ps asg body)
    | .ret=>some (.loop .done (some .ret) g fr M ps asg body)
  | _=>none
def isN:Ex→Bool
  | .normal=>true
  | _=>false
def stY2 (l:Nat):Option (Ex × St)→Option (Value × AH)
  | some (e,s)=>match endL e (s.h.get l) with
    | some o=>match s.h.put l (some o) with
      | some h4=>some (.bool (isN e),h4)
      | none=>none
    | none=>none
  | none=>none
def stY (m:Mac) (l:Nat) (vs:List Value) (h:AH):Option (Value × AH):=match h.get l with
  | some (.loop .ready _ g fr M ps asg body)=>match putL M ps.toList vs fr with
    | some fr1=>match m.c ⟨g,M,some l⟩ asg ⟨fr1,h,[]⟩ with
      | some (.normal,s1)=>match s1.h.get l with
        | some (.loop .ready pd g1 fr1 M1 ps1 asg1 body1)=>match s1.h.put l (some (.loop .busy pd g1 fr1 M1 ps1 asg1 body1)) with
          | some h2=>stY2 l (m.c ⟨g,M,some l⟩ body ⟨s1.fr,h2,s1.ms⟩)
          | none=>none
        | _=>none
      | _=>none
    | none=>none
  | _=>none
def mac (P:Program) (orc:CallF):Nat→Mac
  | 0=>⟨fun _ _ _=>none,fun _ _ _=>none,fun _ _ _=>none,fun _ _ _=>none⟩
  | n+1=>⟨stC P (mac P orc n),stF P orc (mac P orc n),stY (mac P orc n),stL (mac P orc n)⟩
def noOrc:CallF:=fun _ _ _=>none
end
end Go.Ev
namespace Go.Ev
open Go.Eng
theorem getC_eq:∀ (l:List Value) (n:Nat),getC l n=l[n]?
  | [],n=>by simp [getC]
  | v::l,0=>rfl
  | v::l,n+1=>by
    show (Bool.rec (getC l (n+1-1)) (some v) ((n+1).beq 0):Option Value)=_
    rw [getC_eq l]; rfl
theorem takeC_eq:∀ (n:Nat) (l r:List Value),takeC n l=some r→r=l.take n∧n≤l.length
  | 0,l,r,h=>by cases h; simp
  | n+1,[],r,h=>by cases h
  | n+1,v::l,r,h=>by
    have h:(Option.rec none (fun r=>some (v::r)) (takeC n l):Option (List Value))=some r:=h
    rw [opr,Option.map_eq_some_iff] at h
    obtain ⟨r',h1,rfl⟩:=h
    obtain ⟨rfl,h2⟩:=takeC_eq n l r' h1
    exact ⟨rfl,by simpa using h2⟩
theorem dropC_eq:∀ (n:Nat) (l r:List Value),dropC n l=some r→r=l.drop n∧n≤l.length
  | 0,l,r,h=>by cases h; simp
  | n+1,[],r,h=>by cases h
  | n+1,v::l,r,h=>by
    obtain ⟨rfl,h2⟩:=dropC_eq n l r h
    exact ⟨rfl,by simpa using h2⟩
theorem catC_eq:∀ (a b:List Value),catC a b=some (a ++ b)
  | [],b=>rfl
  | v::a,b=>by
    show (Option.rec none (fun l=>some (v::l)) (catC a b):Option (List Value))=_
    rw [catC_eq a b]; rfl
theorem isAgg1_f {v:Value} (h:isAgg1 v=false):v.oneCell'=true:=by cases v <;> first|rfl|simp [isAgg1] at h
theorem overC_eq:∀ (vs l r:List Value),overC vs l=some r→r=vs ++ l.drop vs.length∧vs.length≤l.length∧∀ v∈vs,v.oneCell'=true
  | [],l,r,h=>by cases h; simp
  | v::vs,[],r,h=>by cases h
  | v::vs,u::l,r,h=>by
    have h:(Bool.rec (Option.rec none (fun r=>some (v::r)) (overC vs l)) none (isAgg1 v):Option (List Value))=some r:=h
    cases e:isAgg1 v with
    | true=>rw [e] at h; cases h
    | false =>
      rw [e] at h;simp only [opr,Option.map_eq_some_iff] at h
      obtain ⟨r',h1,rfl⟩:=h
      obtain ⟨rfl,h2,h3⟩:=overC_eq vs l r' h1
      exact ⟨by simp,by simpa using h2,fun x hx=>by
        simp at hx
        rcases hx with rfl|hx
        · exact isAgg1_f e
        · exact h3 x hx⟩
theorem setC_eq:∀ (n:Nat) (vs l r:List Value),setC n vs l=some r→r=l.take n ++ vs ++ l.drop (n+vs.length)∧n+vs.length≤l.length∧∀ v∈vs,v.oneCell'=true
  | 0,vs,l,r,h=>by
    obtain ⟨rfl,h2,h3⟩:=overC_eq vs l r h
    exact ⟨by simp,by omega,h3⟩
  | n+1,vs,[],r,h=>by cases h
  | n+1,vs,u::l,r,h=>by
    have h:(Option.rec none (fun r=>some (u::r)) (setC n vs l):Option (List Value))=some r:=h
    rw [opr,Option.map_eq_some_iff] at h
    obtain ⟨r',h1,rfl⟩:=h
    obtain ⟨rfl,h2,h3⟩:=setC_eq n vs l r' h1
    refine ⟨?_,by simp; omega,h3⟩
    rw [show n+1+vs.length=(n+vs.length)+1 from by omega]
    simp
theorem cl_eq (v:Value):v.cells.toList=cl v:=by
  cases v with
  | agg c=>obtain ⟨l⟩:=c; rfl
  | _=>rfl
/-! heaps -/
def rnE (ρ:Rn):List MapEntry→Option (List MapEntry)
  | []=>some []
  | m::l=>match rn ρ m.key,rn ρ m.val,rnE ρ l with
    | some k,some v,some r=>some (⟨k,v,m.born⟩::r)
    | _,_,_=>none
theorem rnE_mono {ρ ρ':Rn} (h:ρ.le ρ'):∀ {l r:List MapEntry},rnE ρ l=some r→rnE ρ' l=some r
  | [],r,e=>e
  | m::l,r,e=>by
    simp only [rnE] at e ⊢
    cases h1:rn ρ m.key with
    | none=>simp [h1] at e
    | some k=>cases h2:rn ρ m.val with
      | none=>simp [h1,h2] at e
      | some v=>cases h3:rnE ρ l with
        | none=>simp [h1,h2,h3] at e
        | some r'=>rw [rn_mono h h1,rn_mono h h2,rnE_mono h h3]; rw [h1,h2,h3] at e; exact e
def FK (ρ:Rn) (fr:Fr) (get:Nat→Value):Prop:=∀ t v,fr.get t=some v→∃ u,rn ρ v=some u∧get t=u
theorem FK.mono {ρ ρ':Rn} (h:ρ.le ρ') {fr:Fr} {g:Nat→Value} (k:FK ρ fr g):FK ρ' fr g:=fun t v hv =>
  let ⟨u,h1,h2⟩:=k t v hv; ⟨u,rn_mono h h1,h2⟩
def NoFz (fz:Nat × Nat) (n:Nat):Prop:=∀ o,o<n→¬ (fz.1≤o∧o<fz.2)
def OR (P:Program) (ρ:Rn) (s e:Nat):AO→Obj→Prop
  | .cells c t,ob=>∃ pre us post fz k,ob=.cells (pre ++ us ++ post).toArray t fz∧rnL ρ c=some us∧pre.length=s∧post.length=e*k∧(e=0∨szP P t=some k)∧NoFz fz (pre ++ us ++ post).length
  | .map es cl,ob=>∃ r,ob=.map r.toArray cl∧rnE ρ es=some r
  | .loop st pd _ fr M ps asg body,ob=>∃ r:Loop,ob=.loop r∧r.state=st∧r.pending=pd∧r.params=ps∧r.assign=asg∧r.body=body∧r.tmps.size=M∧FK ρ fr (fun t=>r.tmps.getD t undef)
  | .mark,ob=>ob=.deferred (some [])
theorem OR.mono {P:Program} {ρ ρ':Rn} (h:ρ.le ρ') {s e:Nat} {a:AO} {o:Obj} (r:OR P ρ s e a o):OR P ρ' s e a o:=by
  cases a with
  | cells c t=>obtain ⟨pre,us,post,fz,k,h1,h2,h3⟩:=r; exact ⟨pre,us,post,fz,k,h1,rnL_mono h h2,h3⟩
  | map es cl=>obtain ⟨r,h1,h2⟩:=r; exact ⟨r,h1,rnE_mono h h2⟩
  | loop st pd fn fr M ps asg body=>obtain ⟨r,h1,h2,h3,h4,h5,h6,h7,h8⟩:=r; exact ⟨r,h1,h2,h3,h4,h5,h6,h7,h8.mono h⟩
  | mark=>exact r
structure HR (P:Program) (ρ:Rn) (h:AH) (η:PH):Prop where
  val:∀ i a,h.get i=some a→∃ b s e o,ρ i=some (b,s,e)∧η b=some o∧OR P ρ s e a o
  dom:∀ b,η b≠none→∃ i a s e,h.get i=some a∧ρ i=some (b,s,e)
  inj:∀ i j b s e s' e',h.get i≠none→h.get j≠none→ρ i=some (b,s,e)→ρ j=some (b,s',e')→i=j
theorem AH.get_put {h h':AH} {i:Nat} {x:Option AO} (e:h.put i x=some h'):(∀ j,h'.get j=if j=i then x else h.get j)∧h'.next=h.next:=by
  have e:(Option.rec none (fun m=>some (⟨h.next,m⟩:AH)) (Tr.put 16 h.m i x):Option AH)=some h':=e
  rw [opr,Option.map_eq_some_iff] at e
  obtain ⟨m,h1,rfl⟩:=e
  exact ⟨fun j=>Tr.get_put 16 x h.m m i j h1,rfl⟩
theorem AH.get_new {h h':AH} {x:AO} (e:h.new x=some h'):(∀ j,h'.get j=if j=h.next then some x else h.get j)∧h'.next=h.next+1:=by
  have e:(Option.rec none (fun m=>Option.rec none (fun n=>some (⟨n,m⟩:AH)) (fN (h.next+1))) (Tr.put 16 h.m h.next (some x)):Option AH)=some h':=e
  rw [fN_eq] at e;simp only [opr,Option.map_eq_some_iff] at e
  obtain ⟨m,h1,rfl⟩:=e
  exact ⟨fun j=>Tr.get_put 16 (some x) h.m m h.next j h1,rfl⟩
def setR (ρ:Rn) (i:Nat) (x:Nat × Nat × Nat):Rn:=fun j=>if j=i then some x else ρ j
theorem setR_le {ρ:Rn} {i:Nat} {x:Nat × Nat × Nat} (h:ρ i=none):ρ.le (setR ρ i x):=fun j y hj=>by
  unfold setR
  by_cases e:j=i
  · subst e; rw [h] at hj; cases hj
  · rw [if_neg e]; exact hj
def setP (η:PH) (b:Nat) (o:Option Obj):PH:=fun b'=>if b'=b then o else η b'
theorem HR.new {P:Program} {ρ:Rn} {h h':AH} {η:PH} (r:HR P ρ h η) {x:AO} (e:h.new x=some h') (hn:ρ h.next=none) {b s ex:Nat} (hb:η b=none) {o:Obj} (ho:OR P (setR ρ h.next (b,s,ex)) s ex x o) :
    HR P (setR ρ h.next (b,s,ex)) h' (setP η b (some o)):=by
  obtain ⟨g,_⟩:=AH.get_new e
  have hle:=setR_le (x:=(b,s,ex)) hn
  have hne:∀ i a,h.get i=some a→i≠h.next:=fun i a hi e=>by
    obtain ⟨b',s',e',_,h1,_⟩:=r.val i a hi
    rw [e,hn] at h1; cases h1
  have hbn:∀ i a,h.get i=some a→∀ b' s' e',ρ i=some (b',s',e')→b'≠b:=fun i a hi b' s' e' h1 e=>by
    obtain ⟨b2,s2,e2,o2,h2,h3,_⟩:=r.val i a hi
    rw [h1] at h2; cases h2;rw [e,hb] at h3; cases h3
  refine ⟨fun i a hi=>?_,fun b' hb'=>?_,fun i j b' s' e' s2 e2 hi hj h1 h2=>?_⟩
  · rw [g] at hi
    by_cases ei:i=h.next
    · rw [if_pos ei] at hi; cases hi
      exact ⟨b,s,ex,o,by simp [setR,ei],by simp [setP],ho⟩
    · rw [if_neg ei] at hi
      obtain ⟨b',s',e',o',h1,h2,h3⟩:=r.val i a hi
      exact ⟨b',s',e',o',hle i _ h1,by simp [setP,hbn i a hi b' s' e' h1,h2],h3.mono hle⟩
  · by_cases eb:b'=b
    · exact ⟨h.next,x,s,ex,by rw [g,if_pos rfl],by simp [setR,eb]⟩
    · simp only [setP,if_neg eb] at hb'
      obtain ⟨i,a,s',e',h1,h2⟩:=r.dom b' hb'
      exact ⟨i,a,s',e',by rw [g,if_neg (hne i a h1)]; exact h1,hle i _ h2⟩
  · rw [g] at hi hj
    by_cases ei:i=h.next <;> by_cases ej:j=h.next
    · rw [ei,ej]
    · rw [if_neg ej] at hj
      obtain ⟨a,ha⟩:=Option.ne_none_iff_exists'.1 hj
      simp only [setR,if_pos ei,Option.some.injEq,Prod.mk.injEq] at h1;simp only [setR,if_neg ej] at h2;exact absurd h1.1.symm (hbn j a ha b' s2 e2 h2)
    · rw [if_neg ei] at hi
      obtain ⟨a,ha⟩:=Option.ne_none_iff_exists'.1 hi
      simp only [setR,if_pos ej,Option.some.injEq,Prod.mk.injEq] at h2;simp only [setR,if_neg ei] at h1;exact absurd h2.1.symm (hbn i a ha b' s' e' h1)
    · rw [if_neg ei] at hi; rw [if_neg ej] at hj
      simp only [setR,if_neg ei] at h1; simp only [setR,if_neg ej] at h2;exact r.inj i j b' s' e' s2 e2 hi hj h1 h2
theorem HR.put {P:Program} {ρ:Rn} {h h':AH} {η:PH} (r:HR P ρ h η) {i:Nat} {x x0:AO} (h0:h.get i=some x0) (e:h.put i (some x)=some h') {b s ex:Nat} (hi:ρ i=some (b,s,ex)) {o:Obj} (ho:OR P ρ s ex x o) :
    HR P ρ h' (setP η b (some o)):=by
  obtain ⟨g,_⟩:=AH.get_put e
  have hbn:∀ j a,h.get j=some a→j≠i→∀ b' s' e',ρ j=some (b',s',e')→b'≠b:=fun j a hj hji b' s' e' h1 e=>by
    subst e
    exact hji (r.inj j i b' s' e' s ex (by rw [hj]; simp) (by rw [h0]; simp) h1 hi)
  refine ⟨fun j a hj=>?_,fun b' hb'=>?_,fun j k b' s' e' s2 e2 hj hk h1 h2=>?_⟩
  · rw [g] at hj
    by_cases ej:j=i
    · rw [if_pos ej] at hj; cases hj
      exact ⟨b,s,ex,o,ej ▸ hi,by simp [setP],ho⟩
    · rw [if_neg ej] at hj
      obtain ⟨b',s',e',o',h1,h2,h3⟩:=r.val j a hj
      exact ⟨b',s',e',o',h1,by simp [setP,hbn j a hj ej b' s' e' h1,h2],h3⟩
  · by_cases eb:b'=b
    · exact ⟨i,x,s,ex,by rw [g,if_pos rfl],eb ▸ hi⟩
    · simp only [setP,if_neg eb] at hb'
      obtain ⟨j,a,s',e',h1,h2⟩:=r.dom b' hb'
      have:j≠i:=fun ej=>by
        subst ej; rw [hi] at h2; cases h2; exact eb rfl
      exact ⟨j,a,s',e',by rw [g,if_neg this]; exact h1,h2⟩
  · have up:∀ j,h'.get j≠none→h.get j≠none:=fun j hj=>by
      rw [g] at hj
      by_cases ej:j=i
      · rw [ej,h0]; simp
      · rwa [if_neg ej] at hj
    exact r.inj j k b' s' e' s2 e2 (up j hj) (up k hk) h1 h2
theorem HR.drop {P:Program} {ρ:Rn} {h h':AH} {η:PH} (r:HR P ρ h η) {i:Nat} {x0:AO} (h0:h.get i=some x0) (e:h.put i none=some h') {b s ex:Nat} (hi:ρ i=some (b,s,ex)):HR P ρ h' (setP η b none):=by
  obtain ⟨g,_⟩:=AH.get_put e
  have hbn:∀ j a,h.get j=some a→j≠i→∀ b' s' e',ρ j=some (b',s',e')→b'≠b:=fun j a hj hji b' s' e' h1 e=>by
    subst e
    exact hji (r.inj j i b' s' e' s ex (by rw [hj]; simp) (by rw [h0]; simp) h1 hi)
  have gj:∀ j a,h'.get j=some a→j≠i∧h.get j=some a:=fun j a hj=>by
    rw [g] at hj
    by_cases ej:j=i
    · rw [if_pos ej] at hj; cases hj
    · rw [if_neg ej] at hj; exact ⟨ej,hj⟩
  refine ⟨fun j a hj=>?_,fun b' hb'=>?_,fun j k b' s' e' s2 e2 hj hk h1 h2=>?_⟩
  · obtain ⟨ej,hj⟩:=gj j a hj
    obtain ⟨b',s',e',o',h1,h2,h3⟩:=r.val j a hj
    exact ⟨b',s',e',o',h1,by simp [setP,hbn j a hj ej b' s' e' h1,h2],h3⟩
  · by_cases eb:b'=b
    · simp [setP,eb] at hb'
    · simp only [setP,if_neg eb] at hb'
      obtain ⟨j,a,s',e',h1,h2⟩:=r.dom b' hb'
      have:j≠i:=fun ej=>by
        subst ej; rw [hi] at h2; cases h2; exact eb rfl
      exact ⟨j,a,s',e',by rw [g,if_neg this]; exact h1,h2⟩
  · have up:∀ j,h'.get j≠none→h.get j≠none:=fun j hj=>by
      obtain ⟨a,ha⟩:=Option.ne_none_iff_exists'.1 hj
      rw [(gj j a ha).2]; simp
    exact r.inj j k b' s' e' s2 e2 (up j hj) (up k hk) h1 h2
theorem HR.cell {P:Program} {ρ:Rn} {h:AH} {η:PH} {w:World} (r:HR P ρ h η) (hw:η.le w) {i:Nat} {c:List Value} {t:TypeId} (hi:h.get i=some (.cells c t)) {b s e:Nat} (hρ:ρ i=some (b,s,e)) {us:List Value} (hu:rnL ρ c=some us) {o:Nat} {u:Value} (ho:us[o]?=some u) :
    w.cell? ⟨b,s+o,none⟩=some u:=by
  obtain ⟨b',s',e',ob,h1,h2,h3⟩:=r.val i _ hi
  rw [hρ] at h1; cases h1
  obtain ⟨pre,us',post,fz,k,rfl,k2,k3,_⟩:=h3
  rw [hu] at k2; cases k2
  have:=hw b _ h2
  simp only [World.cell?,this]
  have hl:o<us.length:=(List.getElem?_eq_some_iff.1 ho).1
  have hx:(pre ++ us ++ post)[s+o]?=some u:=by
    rw [List.append_assoc,List.getElem?_append_right (by omega),List.getElem?_append_left (by omega),show s+o-pre.length=o from by omega]
    exact ho
  simpa using hx
theorem HR.row {P:Program} {ρ:Rn} {h:AH} {η:PH} {w:World} (r:HR P ρ h η) (hw:η.le w) {i o n:Nat} {l:List Value} (hl:loadN h i o n=some l) {b s e:Nat} (hρ:ρ i=some (b,s,e)) :
    ∃ us,rnL ρ l=some us∧l.length=n∧∀ j u,us[j]?=some u→w.cell? ⟨b,s+o+j,none⟩=some u:=by
  unfold loadN at hl
  split at hl
  · rename_i c t hi
    cases hd:dropC o c with
    | none=>rw [hd] at hl; cases hl
    | some r0 =>
      rw [hd] at hl
      obtain ⟨rfl,h1⟩:=dropC_eq _ _ _ hd
      obtain ⟨rfl,h2⟩:=takeC_eq _ _ _ hl
      obtain ⟨b',s',e',ob,k1,k2,k3⟩:=r.val i _ hi
      rw [hρ] at k1; cases k1
      obtain ⟨pre,us,post,fz,k,_,k4,_⟩:=id k3
      have q1:=(rnL_split o k4).2
      have q2:=(rnL_split n q1).1
      refine ⟨_,q2,by rw [List.length_take]; omega,fun j u hu=>?_⟩
      have hj:j<n:=by
        have:=(List.getElem?_eq_some_iff.1 hu).1
        simp at this; omega
      rw [List.getElem?_take_of_lt hj,List.getElem?_drop] at hu
      have:=r.cell hw hi hρ k4 hu
      rw [Nat.add_assoc]; exact this
  · cases hl
end Go.Ev
