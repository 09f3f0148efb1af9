/- Texts of this proof, one after the other; no conditions. -/
import Derived.Test.YtphehihohghfoaaGreatProg
import Derived.Test.YtphehihohghfoaaGreatWB2
import Derived.Test.YtphehihohghfoaaGreatWB1
set_option linter.all false
/- Each step of a walk as one theorem whose side goals are filled by themselves. No conditions. Written by mkz.py. -/
namespace Go.Eng
variable {C:Cx} {D:List Deferred} {R H Hf:List PH} {L:Env} {K:List It} {ps ls:List Nat}
theorem rsubZ {R0 R:List PH} (h:∀ ρ ∈ R0,ρ ∈ R:=by (repeat (first | exact rs_nil | (refine rs_cons ?_ ?_; (focus ((repeat (first | exact .here | apply Mem.there | apply Take.there)); first | done | fail))) | exact fun ρ hρ=>hρ | (intro ρ hρ; repeat (first | exact hρ | refine List.mem_cons_of_mem _ ?_)))); first | done | fail):∀ ρ ∈ R0,ρ ∈ R:=h
theorem envZ {k:Nat} {vs cap:List Value} {L:Env} (h:EnvA k vs cap L:=by (repeat (first | exact EnvA.nil EnvI.nil | apply EnvA.cons | apply EnvA.nil | exact EnvI.nil | apply EnvI.cons)); first | done | fail):EnvA k vs cap L:=h
theorem takesZ {H T H':List PH} (h:Takes H T H':=by (repeat (first | exact Takes.nil | (apply Takes.cons; exact (by (repeat (first | exact .here | apply Take.there)); first | done | fail)))); first | done | fail):Takes H T H':=h
theorem putiZ {ps:List Nat} {vs:List Value} {L L':Env} (h:PutI ps vs L L':=by (repeat (first | exact PutI.nil | apply PutI.cons)); first | done | fail):PutI ps vs L L':=h
theorem selZ {H H':List PH} (h:Sel H H':=by (repeat (first | exact Sel.nil | (apply Sel.cons; (focus ((repeat (first | exact .here | apply Mem.there | apply Take.there)); first | done | fail))))); first | done | fail):Sel H H':=h
theorem covZ {L L':Env} (h:Cover L L':=by (repeat (first | exact trivial | refine And.intro rfl ?_)); first | done | fail):Cover L L':=h
theorem pickZ {L L':Env} {ks:List Nat} (h:Pick L ks L':=by (repeat (first | exact Pick.nil | apply Pick.cons rfl)); first | done | fail):Pick L ks L':=h
theorem rdZ {R1 R H:List PH} (h:RdOK R1 R H:=by (repeat (first | exact RdOK.nil | (refine RdOK.consR ?_ ?_; (focus ((repeat (first | exact .here | apply Mem.there | apply Take.there)); first | done | fail))) | (refine RdOK.consH ?_ ?_; (focus ((repeat (first | exact .here | apply Mem.there | apply Take.there)); first | done | fail))) | exact (fun τ hτ=>.inl (by simp [hτ])))); first | done | fail):RdOK R1 R H:=h
theorem memZ {ρ:PH} {H:List PH} (h:Mem ρ H:=by (repeat (first | exact .here | apply Mem.there)); first | done | fail):Mem ρ H:=h
theorem takeZ {ρ:PH} {H H':List PH} (h:Take ρ H H':=by (repeat (first | exact .here | apply Take.there)); first | done | fail):Take ρ H H':=h
theorem AB {all:Array Oper} {o:Oper} {rest:List Oper} {d:Nat} {v:Value} (h:JK C D R H ((d,v) :: L) (.ops all rest :: K)) (hq:Quiet C R H L o v:=by (apply FM; exact rfl)) (hg:wantE all L o = some true:=by exact rfl) (hd:o.dst = some d:=by exact rfl) (hM:Nat.blt d C.M = true:=by exact rfl):JK C D R H L (.ops all (o :: rest) :: K):=CR hq hg hd hM h
theorem AJ {all:Array Oper} {done:List Nat} {i d:Nat} {rest:Pl} {o:Oper} {v:Value} (h:DJ C D R Hf H ((d,v) :: L) all (i :: done) ps ls rest K) (ho:all[i]? = some o:=by exact rfl) (hq:Quiet C R H L o v:=by (apply FM; exact rfl)) (hg:wantE all L o = some true:=by exact rfl) (hd:o.dst = some d:=by exact rfl) (hM:Nat.blt d C.M = true:=by exact rfl) (hin:(ps.all (done.contains ·)) = true:=by exact rfl):DJ C D R Hf H L all done ps ls (.q i rest) K:=CV ho hq hg hd hM hin h
theorem DG {all:Array Oper} {done:List Nat} {i d:Nat} {rest:Pl} {o:Oper} {v:Value} (h:DJ C D R Hf H ((d,v) :: L) all (i :: done) (i :: ps) ls rest K) (ho:all[i]? = some o:=by exact rfl) (hq:Quiet C R Hf L o v:=by (apply FM; exact rfl)) (hg:wantE all L o = some true:=by exact rfl) (hd:o.dst = some d:=by exact rfl) (hM:Nat.blt d C.M = true:=by exact rfl):DJ C D R Hf H L all done ps ls (.p i rest) K:=GH ho hq hg hd hM h
theorem AC {all:Array Oper} {o:Oper} {rest:List Oper} {d:Nat} {v:Value} (h:JK C D R H ((d,v) :: L) (.ops all rest :: K)) (hq:Quiet C R H L o v:=by (apply EF; exact rfl)) (hg:wantE all L o = some true:=by exact rfl) (hd:o.dst = some d:=by exact rfl) (hM:Nat.blt d C.M = true:=by exact rfl):JK C D R H L (.ops all (o :: rest) :: K):=CR hq hg hd hM h
theorem BW {all:Array Oper} {done:List Nat} {i d:Nat} {rest:Pl} {o:Oper} {v:Value} (h:DJ C D R Hf H ((d,v) :: L) all (i :: done) ps ls rest K) (ho:all[i]? = some o:=by exact rfl) (hq:Quiet C R H L o v:=by (apply EF; exact rfl)) (hg:wantE all L o = some true:=by exact rfl) (hd:o.dst = some d:=by exact rfl) (hM:Nat.blt d C.M = true:=by exact rfl) (hin:(ps.all (done.contains ·)) = true:=by exact rfl):DJ C D R Hf H L all done ps ls (.q i rest) K:=CV ho hq hg hd hM hin h
theorem C5 {all:Array Oper} {done:List Nat} {i d:Nat} {rest:Pl} {o:Oper} {v:Value} (h:DJ C D R Hf H ((d,v) :: L) all (i :: done) ps (i :: ls) rest K) (ho:all[i]? = some o:=by exact rfl) (hq:Quiet C R H L o v:=by (apply EF; exact rfl)) (hg:wantE all L o = some true:=by exact rfl) (hd:o.dst = some d:=by exact rfl) (hM:Nat.blt d C.M = true:=by exact rfl) (hf:Sel H Hf:=by (repeat (first | exact Sel.nil | (apply Sel.cons; (focus ((repeat (first | exact .here | apply Mem.there | apply Take.there)); first | done | fail))))); first | done | fail):DJ C D R Hf H L all done ps ls (.l i .b rest) K:=CL (a_bq ho hq hg hd hM hf h)
theorem AM {all:Array Oper} {o:Oper} {rest:List Oper} {d:Nat} {v:Value} (h:JK C D R H ((d,v) :: L) (.ops all rest :: K)) (hq:Quiet C R H L o v:=by (apply D8; exact rfl; exact rfl)) (hg:wantE all L o = some true:=by exact rfl) (hd:o.dst = some d:=by exact rfl) (hM:Nat.blt d C.M = true:=by exact rfl):JK C D R H L (.ops all (o :: rest) :: K):=CR hq hg hd hM h
theorem DY {all:Array Oper} {done:List Nat} {i d:Nat} {rest:Pl} {o:Oper} {v:Value} (h:DJ C D R Hf H ((d,v) :: L) all (i :: done) ps ls rest K) (ho:all[i]? = some o:=by exact rfl) (hq:Quiet C R H L o v:=by (apply D8; exact rfl; exact rfl)) (hg:wantE all L o = some true:=by exact rfl) (hd:o.dst = some d:=by exact rfl) (hM:Nat.blt d C.M = true:=by exact rfl) (hin:(ps.all (done.contains ·)) = true:=by exact rfl):DJ C D R Hf H L all done ps ls (.q i rest) K:=CV ho hq hg hd hM hin h
theorem FK {all:Array Oper} {done:List Nat} {i d:Nat} {rest:Pl} {o:Oper} {v:Value} (h:DJ C D R Hf H ((d,v) :: L) all (i :: done) (i :: ps) ls rest K) (ho:all[i]? = some o:=by exact rfl) (hq:Quiet C R Hf L o v:=by (apply D8; exact rfl; exact rfl)) (hg:wantE all L o = some true:=by exact rfl) (hd:o.dst = some d:=by exact rfl) (hM:Nat.blt d C.M = true:=by exact rfl):DJ C D R Hf H L all done ps ls (.p i rest) K:=GH ho hq hg hd hM h
theorem AF {all:Array Oper} {o:Oper} {rest:List Oper} {d:Nat} {v:Value} (h:JK C D R H ((d,v) :: L) (.ops all rest :: K)) (hq:Quiet C R H L o v:=by (apply FN; exact rfl; exact rfl; (first | exact cell_own (by (repeat (first | exact .here | apply Mem.there)); first | done | fail) rfl | exact cellR (by assumption) (by (repeat (first | exact .here | apply Mem.there)); first | done | fail) | exact cellH (by assumption) (by (repeat (first | exact .here | apply Mem.there)); first | done | fail) | exact cell_ints (by (repeat (first | exact .here | apply Mem.there)); first | done | fail) (by omega) | exact cell_bools (by assumption) (by (repeat (first | exact .here | apply Mem.there)); first | done | fail) | exact cell_intsR (by (repeat (first | exact .here | apply Mem.there)); first | done | fail) (by omega) | exact cell_boolsR (by assumption) (by (repeat (first | exact .here | apply Mem.there)); first | done | fail)))) (hg:wantE all L o = some true:=by exact rfl) (hd:o.dst = some d:=by exact rfl) (hM:Nat.blt d C.M = true:=by exact rfl):JK C D R H L (.ops all (o :: rest) :: K):=CR hq hg hd hM h
theorem AR {all:Array Oper} {done:List Nat} {i d:Nat} {rest:Pl} {o:Oper} {v:Value} (h:DJ C D R Hf H ((d,v) :: L) all (i :: done) ps ls rest K) (ho:all[i]? = some o:=by exact rfl) (hq:Quiet C R H L o v:=by (apply FN; exact rfl; exact rfl; (first | exact cell_own (by (repeat (first | exact .here | apply Mem.there)); first | done | fail) rfl | exact cellR (by assumption) (by (repeat (first | exact .here | apply Mem.there)); first | done | fail) | exact cellH (by assumption) (by (repeat (first | exact .here | apply Mem.there)); first | done | fail) | exact cell_ints (by (repeat (first | exact .here | apply Mem.there)); first | done | fail) (by omega) | exact cell_bools (by assumption) (by (repeat (first | exact .here | apply Mem.there)); first | done | fail) | exact cell_intsR (by (repeat (first | exact .here | apply Mem.there)); first | done | fail) (by omega) | exact cell_boolsR (by assumption) (by (repeat (first | exact .here | apply Mem.there)); first | done | fail)))) (hg:wantE all L o = some true:=by exact rfl) (hd:o.dst = some d:=by exact rfl) (hM:Nat.blt d C.M = true:=by exact rfl) (hin:(ps.all (done.contains ·)) = true:=by exact rfl):DJ C D R Hf H L all done ps ls (.q i rest) K:=CV ho hq hg hd hM hin h
theorem FW {all:Array Oper} {done:List Nat} {i d:Nat} {rest:Pl} {o:Oper} {v:Value} (h:DJ C D R Hf H ((d,v) :: L) all (i :: done) (i :: ps) ls rest K) (ho:all[i]? = some o:=by exact rfl) (hq:Quiet C R Hf L o v:=by (apply FN; exact rfl; exact rfl; (first | exact cell_own (by (repeat (first | exact .here | apply Mem.there)); first | done | fail) rfl | exact cellR (by assumption) (by (repeat (first | exact .here | apply Mem.there)); first | done | fail) | exact cellH (by assumption) (by (repeat (first | exact .here | apply Mem.there)); first | done | fail) | exact cell_ints (by (repeat (first | exact .here | apply Mem.there)); first | done | fail) (by omega) | exact cell_bools (by assumption) (by (repeat (first | exact .here | apply Mem.there)); first | done | fail) | exact cell_intsR (by (repeat (first | exact .here | apply Mem.there)); first | done | fail) (by omega) | exact cell_boolsR (by assumption) (by (repeat (first | exact .here | apply Mem.there)); first | done | fail)))) (hg:wantE all L o = some true:=by exact rfl) (hd:o.dst = some d:=by exact rfl) (hM:Nat.blt d C.M = true:=by exact rfl):DJ C D R Hf H L all done ps ls (.p i rest) K:=GH ho hq hg hd hM h
theorem AG {all:Array Oper} {o:Oper} {rest:List Oper} {d:Nat} {v:Value} (h:JK C D R H ((d,v) :: L) (.ops all rest :: K)) (hq:Quiet C R H L o v:=by (apply FO; exact rfl; exact rfl)) (hg:wantE all L o = some true:=by exact rfl) (hd:o.dst = some d:=by exact rfl) (hM:Nat.blt d C.M = true:=by exact rfl):JK C D R H L (.ops all (o :: rest) :: K):=CR hq hg hd hM h
theorem A0 {all:Array Oper} {done:List Nat} {i d:Nat} {rest:Pl} {o:Oper} {v:Value} (h:DJ C D R Hf H ((d,v) :: L) all (i :: done) ps ls rest K) (ho:all[i]? = some o:=by exact rfl) (hq:Quiet C R H L o v:=by (apply FO; exact rfl; exact rfl)) (hg:wantE all L o = some true:=by exact rfl) (hd:o.dst = some d:=by exact rfl) (hM:Nat.blt d C.M = true:=by exact rfl) (hin:(ps.all (done.contains ·)) = true:=by exact rfl):DJ C D R Hf H L all done ps ls (.q i rest) K:=CV ho hq hg hd hM hin h
theorem FX {all:Array Oper} {done:List Nat} {i d:Nat} {rest:Pl} {o:Oper} {v:Value} (h:DJ C D R Hf H ((d,v) :: L) all (i :: done) (i :: ps) ls rest K) (ho:all[i]? = some o:=by exact rfl) (hq:Quiet C R Hf L o v:=by (apply FO; exact rfl; exact rfl)) (hg:wantE all L o = some true:=by exact rfl) (hd:o.dst = some d:=by exact rfl) (hM:Nat.blt d C.M = true:=by exact rfl):DJ C D R Hf H L all done ps ls (.p i rest) K:=GH ho hq hg hd hM h
theorem CH {all:Array Oper} {o:Oper} {rest:List Oper} {d:Nat} {v:Value} (h:JK C D R H ((d,v) :: L) (.ops all rest :: K)) (hq:Quiet C R H L o v:=by (apply GI; exact rfl; exact rfl)) (hg:wantE all L o = some true:=by exact rfl) (hd:o.dst = some d:=by exact rfl) (hM:Nat.blt d C.M = true:=by exact rfl):JK C D R H L (.ops all (o :: rest) :: K):=CR hq hg hd hM h
theorem BY {all:Array Oper} {done:List Nat} {i d:Nat} {rest:Pl} {o:Oper} {v:Value} (h:DJ C D R Hf H ((d,v) :: L) all (i :: done) ps ls rest K) (ho:all[i]? = some o:=by exact rfl) (hq:Quiet C R H L o v:=by (apply GI; exact rfl; exact rfl)) (hg:wantE all L o = some true:=by exact rfl) (hd:o.dst = some d:=by exact rfl) (hM:Nat.blt d C.M = true:=by exact rfl) (hin:(ps.all (done.contains ·)) = true:=by exact rfl):DJ C D R Hf H L all done ps ls (.q i rest) K:=CV ho hq hg hd hM hin h
theorem B0 {all:Array Oper} {o:Oper} {rest:List Oper} {d:Nat} {v:Value} (h:JK C D R H ((d,v) :: L) (.ops all rest :: K)) (hq:Quiet C R H L o v:=by (apply F5; exact rfl; exact rfl)) (hg:wantE all L o = some true:=by exact rfl) (hd:o.dst = some d:=by exact rfl) (hM:Nat.blt d C.M = true:=by exact rfl):JK C D R H L (.ops all (o :: rest) :: K):=CR hq hg hd hM h
theorem BX {all:Array Oper} {done:List Nat} {i d:Nat} {rest:Pl} {o:Oper} {v:Value} (h:DJ C D R Hf H ((d,v) :: L) all (i :: done) ps ls rest K) (ho:all[i]? = some o:=by exact rfl) (hq:Quiet C R H L o v:=by (apply F5; exact rfl; exact rfl)) (hg:wantE all L o = some true:=by exact rfl) (hd:o.dst = some d:=by exact rfl) (hM:Nat.blt d C.M = true:=by exact rfl) (hin:(ps.all (done.contains ·)) = true:=by exact rfl):DJ C D R Hf H L all done ps ls (.q i rest) K:=CV ho hq hg hd hM hin h
theorem BH {all:Array Oper} {o:Oper} {rest:List Oper} {d:Nat} {v:Value} (h:JK C D R H ((d,v) :: L) (.ops all rest :: K)) (hq:Quiet C R H L o v:=by (apply FT; exact rfl; exact rfl; exact rfl; exact rfl; omega)) (hg:wantE all L o = some true:=by exact rfl) (hd:o.dst = some d:=by exact rfl) (hM:Nat.blt d C.M = true:=by exact rfl):JK C D R H L (.ops all (o :: rest) :: K):=CR hq hg hd hM h
theorem B7 {all:Array Oper} {done:List Nat} {i d:Nat} {rest:Pl} {o:Oper} {v:Value} (h:DJ C D R Hf H ((d,v) :: L) all (i :: done) ps ls rest K) (ho:all[i]? = some o:=by exact rfl) (hq:Quiet C R H L o v:=by (apply FT; exact rfl; exact rfl; exact rfl; exact rfl; omega)) (hg:wantE all L o = some true:=by exact rfl) (hd:o.dst = some d:=by exact rfl) (hM:Nat.blt d C.M = true:=by exact rfl) (hin:(ps.all (done.contains ·)) = true:=by exact rfl):DJ C D R Hf H L all done ps ls (.q i rest) K:=CV ho hq hg hd hM hin h
theorem G2 {all:Array Oper} {done:List Nat} {i d:Nat} {rest:Pl} {o:Oper} {v:Value} (h:DJ C D R Hf H ((d,v) :: L) all (i :: done) (i :: ps) ls rest K) (ho:all[i]? = some o:=by exact rfl) (hq:Quiet C R Hf L o v:=by (apply FT; exact rfl; exact rfl; exact rfl; exact rfl; omega)) (hg:wantE all L o = some true:=by exact rfl) (hd:o.dst = some d:=by exact rfl) (hM:Nat.blt d C.M = true:=by exact rfl):DJ C D R Hf H L all done ps ls (.p i rest) K:=GH ho hq hg hd hM h
theorem BQ {all:Array Oper} {o:Oper} {rest:List Oper} {d:Nat} {v:Value} (h:JK C D R H ((d,v) :: L) (.ops all rest :: K)) (hq:Quiet C R H L o v:=by (apply FP; exact rfl; exact rfl; exact rfl; exact rfl; omega)) (hg:wantE all L o = some true:=by exact rfl) (hd:o.dst = some d:=by exact rfl) (hM:Nat.blt d C.M = true:=by exact rfl):JK C D R H L (.ops all (o :: rest) :: K):=CR hq hg hd hM h
theorem CE {all:Array Oper} {done:List Nat} {i d:Nat} {rest:Pl} {o:Oper} {v:Value} (h:DJ C D R Hf H ((d,v) :: L) all (i :: done) ps ls rest K) (ho:all[i]? = some o:=by exact rfl) (hq:Quiet C R H L o v:=by (apply FP; exact rfl; exact rfl; exact rfl; exact rfl; omega)) (hg:wantE all L o = some true:=by exact rfl) (hd:o.dst = some d:=by exact rfl) (hM:Nat.blt d C.M = true:=by exact rfl) (hin:(ps.all (done.contains ·)) = true:=by exact rfl):DJ C D R Hf H L all done ps ls (.q i rest) K:=CV ho hq hg hd hM hin h
theorem A3 {all:Array Oper} {o:Oper} {rest:List Oper} {d:Nat} {v:Value} (h:JK C D R H ((d,v) :: L) (.ops all rest :: K)) (hq:Quiet C R H L o v:=by (apply GG; exact rfl; exact rfl; exact rfl; exact rfl; omega)) (hg:wantE all L o = some true:=by exact rfl) (hd:o.dst = some d:=by exact rfl) (hM:Nat.blt d C.M = true:=by exact rfl):JK C D R H L (.ops all (o :: rest) :: K):=CR hq hg hd hM h
theorem BC {all:Array Oper} {done:List Nat} {i d:Nat} {rest:Pl} {o:Oper} {v:Value} (h:DJ C D R Hf H ((d,v) :: L) all (i :: done) ps ls rest K) (ho:all[i]? = some o:=by exact rfl) (hq:Quiet C R H L o v:=by (apply GG; exact rfl; exact rfl; exact rfl; exact rfl; omega)) (hg:wantE all L o = some true:=by exact rfl) (hd:o.dst = some d:=by exact rfl) (hM:Nat.blt d C.M = true:=by exact rfl) (hin:(ps.all (done.contains ·)) = true:=by exact rfl):DJ C D R Hf H L all done ps ls (.q i rest) K:=CV ho hq hg hd hM hin h
theorem G3 {all:Array Oper} {o:Oper} {rest:List Oper} {d:Nat} {v:Value} (h:JK C D R H ((d,v) :: L) (.ops all rest :: K)) (hq:Quiet C R H L o v:=by (apply GJ; exact rfl; exact rfl; exact rfl; exact rfl; omega)) (hg:wantE all L o = some true:=by exact rfl) (hd:o.dst = some d:=by exact rfl) (hM:Nat.blt d C.M = true:=by exact rfl):JK C D R H L (.ops all (o :: rest) :: K):=CR hq hg hd hM h
theorem G4 {all:Array Oper} {done:List Nat} {i d:Nat} {rest:Pl} {o:Oper} {v:Value} (h:DJ C D R Hf H ((d,v) :: L) all (i :: done) ps ls rest K) (ho:all[i]? = some o:=by exact rfl) (hq:Quiet C R H L o v:=by (apply GJ; exact rfl; exact rfl; exact rfl; exact rfl; omega)) (hg:wantE all L o = some true:=by exact rfl) (hd:o.dst = some d:=by exact rfl) (hM:Nat.blt d C.M = true:=by exact rfl) (hin:(ps.all (done.contains ·)) = true:=by exact rfl):DJ C D R Hf H L all done ps ls (.q i rest) K:=CV ho hq hg hd hM hin h
theorem AQ {all:Array Oper} {o:Oper} {rest:List Oper} {d:Nat} {v:Value} (h:JK C D R H ((d,v) :: L) (.ops all rest :: K)) (hq:Quiet C R H L o v:=by (apply FA; exact rfl; exact rfl)) (hg:wantE all L o = some true:=by exact rfl) (hd:o.dst = some d:=by exact rfl) (hM:Nat.blt d C.M = true:=by exact rfl):JK C D R H L (.ops all (o :: rest) :: K):=CR hq hg hd hM h
theorem BR {all:Array Oper} {done:List Nat} {i d:Nat} {rest:Pl} {o:Oper} {v:Value} (h:DJ C D R Hf H ((d,v) :: L) all (i :: done) ps ls rest K) (ho:all[i]? = some o:=by exact rfl) (hq:Quiet C R H L o v:=by (apply FA; exact rfl; exact rfl)) (hg:wantE all L o = some true:=by exact rfl) (hd:o.dst = some d:=by exact rfl) (hM:Nat.blt d C.M = true:=by exact rfl) (hin:(ps.all (done.contains ·)) = true:=by exact rfl):DJ C D R Hf H L all done ps ls (.q i rest) K:=CV ho hq hg hd hM hin h
theorem AL {all:Array Oper} {o:Oper} {rest:List Oper} {d:Nat} {v:Value} (h:JK C D R H ((d,v) :: L) (.ops all rest :: K)) (hq:Quiet C R H L o v:=by (apply FB; exact rfl; exact rfl)) (hg:wantE all L o = some true:=by exact rfl) (hd:o.dst = some d:=by exact rfl) (hM:Nat.blt d C.M = true:=by exact rfl):JK C D R H L (.ops all (o :: rest) :: K):=CR hq hg hd hM h
theorem BU {all:Array Oper} {done:List Nat} {i d:Nat} {rest:Pl} {o:Oper} {v:Value} (h:DJ C D R Hf H ((d,v) :: L) all (i :: done) ps ls rest K) (ho:all[i]? = some o:=by exact rfl) (hq:Quiet C R H L o v:=by (apply FB; exact rfl; exact rfl)) (hg:wantE all L o = some true:=by exact rfl) (hd:o.dst = some d:=by exact rfl) (hM:Nat.blt d C.M = true:=by exact rfl) (hin:(ps.all (done.contains ·)) = true:=by exact rfl):DJ C D R Hf H L all done ps ls (.q i rest) K:=CV ho hq hg hd hM hin h
theorem AV {all:Array Oper} {o:Oper} {rest:List Oper} {d:Nat} {v:Value} (h:JK C D R H ((d,v) :: L) (.ops all rest :: K)) (hq:Quiet C R H L o v:=by (apply q_len; exact rfl; exact rfl)) (hg:wantE all L o = some true:=by exact rfl) (hd:o.dst = some d:=by exact rfl) (hM:Nat.blt d C.M = true:=by exact rfl):JK C D R H L (.ops all (o :: rest) :: K):=CR hq hg hd hM h
theorem DA {all:Array Oper} {done:List Nat} {i d:Nat} {rest:Pl} {o:Oper} {v:Value} (h:DJ C D R Hf H ((d,v) :: L) all (i :: done) ps ls rest K) (ho:all[i]? = some o:=by exact rfl) (hq:Quiet C R H L o v:=by (apply q_len; exact rfl; exact rfl)) (hg:wantE all L o = some true:=by exact rfl) (hd:o.dst = some d:=by exact rfl) (hM:Nat.blt d C.M = true:=by exact rfl) (hin:(ps.all (done.contains ·)) = true:=by exact rfl):DJ C D R Hf H L all done ps ls (.q i rest) K:=CV ho hq hg hd hM hin h
theorem BJ {all:Array Oper} {o:Oper} {rest:List Oper} {d:Nat} {v:Value} (h:JK C D R H ((d,v) :: L) (.ops all rest :: K)) (hq:Quiet C R H L o v:=by (apply q_not; exact rfl)) (hg:wantE all L o = some true:=by exact rfl) (hd:o.dst = some d:=by exact rfl) (hM:Nat.blt d C.M = true:=by exact rfl):JK C D R H L (.ops all (o :: rest) :: K):=CR hq hg hd hM h
theorem C3 {all:Array Oper} {done:List Nat} {i d:Nat} {rest:Pl} {o:Oper} {v:Value} (h:DJ C D R Hf H ((d,v) :: L) all (i :: done) ps ls rest K) (ho:all[i]? = some o:=by exact rfl) (hq:Quiet C R H L o v:=by (apply q_not; exact rfl)) (hg:wantE all L o = some true:=by exact rfl) (hd:o.dst = some d:=by exact rfl) (hM:Nat.blt d C.M = true:=by exact rfl) (hin:(ps.all (done.contains ·)) = true:=by exact rfl):DJ C D R Hf H L all done ps ls (.q i rest) K:=CV ho hq hg hd hM hin h
theorem BZ {all:Array Oper} {o:Oper} {rest:List Oper} {d:Nat} {v:Value} (h:JK C D R H ((d,v) :: L) (.ops all rest :: K)) (hq:Quiet C R H L o v:=by (apply DU; exact rfl)) (hg:wantE all L o = some true:=by exact rfl) (hd:o.dst = some d:=by exact rfl) (hM:Nat.blt d C.M = true:=by exact rfl):JK C D R H L (.ops all (o :: rest) :: K):=CR hq hg hd hM h
theorem BA {all:Array Oper} {done:List Nat} {i d:Nat} {rest:Pl} {o:Oper} {v:Value} (h:DJ C D R Hf H ((d,v) :: L) all (i :: done) ps ls rest K) (ho:all[i]? = some o:=by exact rfl) (hq:Quiet C R H L o v:=by (apply DU; exact rfl)) (hg:wantE all L o = some true:=by exact rfl) (hd:o.dst = some d:=by exact rfl) (hM:Nat.blt d C.M = true:=by exact rfl) (hin:(ps.all (done.contains ·)) = true:=by exact rfl):DJ C D R Hf H L all done ps ls (.q i rest) K:=CV ho hq hg hd hM hin h
theorem E7 {all:Array Oper} {done:List Nat} {i d:Nat} {rest:Pl} {o:Oper} {v:Value} (h:DJ C D R Hf H ((d,v) :: L) all (i :: done) (i :: ps) ls rest K) (ho:all[i]? = some o:=by exact rfl) (hq:Quiet C R Hf L o v:=by (apply DU; exact rfl)) (hg:wantE all L o = some true:=by exact rfl) (hd:o.dst = some d:=by exact rfl) (hM:Nat.blt d C.M = true:=by exact rfl):DJ C D R Hf H L all done ps ls (.p i rest) K:=GH ho hq hg hd hM h
theorem A7 {all:Array Oper} {o:Oper} {rest:List Oper} {d:Nat} {v:Value} (h:JK C D R H ((d,v) :: L) (.ops all rest :: K)) (hq:Quiet C R H L o v:=by (apply q_inc; exact rfl; exact rfl; omega)) (hg:wantE all L o = some true:=by exact rfl) (hd:o.dst = some d:=by exact rfl) (hM:Nat.blt d C.M = true:=by exact rfl):JK C D R H L (.ops all (o :: rest) :: K):=CR hq hg hd hM h
theorem zd_inc {all:Array Oper} {done:List Nat} {i d:Nat} {rest:Pl} {o:Oper} {v:Value} (h:DJ C D R Hf H ((d,v) :: L) all (i :: done) ps ls rest K) (ho:all[i]? = some o:=by exact rfl) (hq:Quiet C R H L o v:=by (apply q_inc; exact rfl; exact rfl; omega)) (hg:wantE all L o = some true:=by exact rfl) (hd:o.dst = some d:=by exact rfl) (hM:Nat.blt d C.M = true:=by exact rfl) (hin:(ps.all (done.contains ·)) = true:=by exact rfl):DJ C D R Hf H L all done ps ls (.q i rest) K:=CV ho hq hg hd hM hin h
theorem BD {all:Array Oper} {o:Oper} {rest:List Oper} {d:Nat} {v:Value} (h:JK C D R H ((d,v) :: L) (.ops all rest :: K)) (hq:Quiet C R H L o v:=by (apply q_lt; exact rfl; exact rfl; omega)) (hg:wantE all L o = some true:=by exact rfl) (hd:o.dst = some d:=by exact rfl) (hM:Nat.blt d C.M = true:=by exact rfl):JK C D R H L (.ops all (o :: rest) :: K):=CR hq hg hd hM h
theorem D0 {all:Array Oper} {done:List Nat} {i d:Nat} {rest:Pl} {o:Oper} {v:Value} (h:DJ C D R Hf H ((d,v) :: L) all (i :: done) ps ls rest K) (ho:all[i]? = some o:=by exact rfl) (hq:Quiet C R H L o v:=by (apply q_lt; exact rfl; exact rfl; omega)) (hg:wantE all L o = some true:=by exact rfl) (hd:o.dst = some d:=by exact rfl) (hM:Nat.blt d C.M = true:=by exact rfl) (hin:(ps.all (done.contains ·)) = true:=by exact rfl):DJ C D R Hf H L all done ps ls (.q i rest) K:=CV ho hq hg hd hM hin h
theorem AY {all:Array Oper} {o:Oper} {rest:List Oper} {d:Nat} {v:Value} (h:JK C D R H ((d,v) :: L) (.ops all rest :: K)) (hq:Quiet C R H L o v:=by (apply q_ltF; exact rfl; exact rfl; omega)) (hg:wantE all L o = some true:=by exact rfl) (hd:o.dst = some d:=by exact rfl) (hM:Nat.blt d C.M = true:=by exact rfl):JK C D R H L (.ops all (o :: rest) :: K):=CR hq hg hd hM h
theorem DB {all:Array Oper} {done:List Nat} {i d:Nat} {rest:Pl} {o:Oper} {v:Value} (h:DJ C D R Hf H ((d,v) :: L) all (i :: done) ps ls rest K) (ho:all[i]? = some o:=by exact rfl) (hq:Quiet C R H L o v:=by (apply q_ltF; exact rfl; exact rfl; omega)) (hg:wantE all L o = some true:=by exact rfl) (hd:o.dst = some d:=by exact rfl) (hM:Nat.blt d C.M = true:=by exact rfl) (hin:(ps.all (done.contains ·)) = true:=by exact rfl):DJ C D R Hf H L all done ps ls (.q i rest) K:=CV ho hq hg hd hM hin h
theorem CJ {all:Array Oper} {o:Oper} {rest:List Oper} {d:Nat} {v:Value} (h:JK C D R H ((d,v) :: L) (.ops all rest :: K)) (hq:Quiet C R H L o v:=by (apply q_eq; exact rfl; exact rfl; omega)) (hg:wantE all L o = some true:=by exact rfl) (hd:o.dst = some d:=by exact rfl) (hM:Nat.blt d C.M = true:=by exact rfl):JK C D R H L (.ops all (o :: rest) :: K):=CR hq hg hd hM h
theorem EW {all:Array Oper} {done:List Nat} {i d:Nat} {rest:Pl} {o:Oper} {v:Value} (h:DJ C D R Hf H ((d,v) :: L) all (i :: done) ps ls rest K) (ho:all[i]? = some o:=by exact rfl) (hq:Quiet C R H L o v:=by (apply q_eq; exact rfl; exact rfl; omega)) (hg:wantE all L o = some true:=by exact rfl) (hd:o.dst = some d:=by exact rfl) (hM:Nat.blt d C.M = true:=by exact rfl) (hin:(ps.all (done.contains ·)) = true:=by exact rfl):DJ C D R Hf H L all done ps ls (.q i rest) K:=CV ho hq hg hd hM hin h
theorem B8 {all:Array Oper} {o:Oper} {rest:List Oper} {d:Nat} {v:Value} (h:JK C D R H ((d,v) :: L) (.ops all rest :: K)) (hq:Quiet C R H L o v:=by (apply q_eqF; exact rfl; exact rfl; omega)) (hg:wantE all L o = some true:=by exact rfl) (hd:o.dst = some d:=by exact rfl) (hM:Nat.blt d C.M = true:=by exact rfl):JK C D R H L (.ops all (o :: rest) :: K):=CR hq hg hd hM h
theorem DM {all:Array Oper} {done:List Nat} {i d:Nat} {rest:Pl} {o:Oper} {v:Value} (h:DJ C D R Hf H ((d,v) :: L) all (i :: done) ps ls rest K) (ho:all[i]? = some o:=by exact rfl) (hq:Quiet C R H L o v:=by (apply q_eqF; exact rfl; exact rfl; omega)) (hg:wantE all L o = some true:=by exact rfl) (hd:o.dst = some d:=by exact rfl) (hM:Nat.blt d C.M = true:=by exact rfl) (hin:(ps.all (done.contains ·)) = true:=by exact rfl):DJ C D R Hf H L all done ps ls (.q i rest) K:=CV ho hq hg hd hM hin h
theorem CG {all:Array Oper} {o:Oper} {rest:List Oper} {d:Nat} {v:Value} (h:JK C D R H ((d,v) :: L) (.ops all rest :: K)) (hq:Quiet C R H L o v:=by (apply q_ne; exact rfl; exact rfl; omega)) (hg:wantE all L o = some true:=by exact rfl) (hd:o.dst = some d:=by exact rfl) (hM:Nat.blt d C.M = true:=by exact rfl):JK C D R H L (.ops all (o :: rest) :: K):=CR hq hg hd hM h
theorem zd_ne {all:Array Oper} {done:List Nat} {i d:Nat} {rest:Pl} {o:Oper} {v:Value} (h:DJ C D R Hf H ((d,v) :: L) all (i :: done) ps ls rest K) (ho:all[i]? = some o:=by exact rfl) (hq:Quiet C R H L o v:=by (apply q_ne; exact rfl; exact rfl; omega)) (hg:wantE all L o = some true:=by exact rfl) (hd:o.dst = some d:=by exact rfl) (hM:Nat.blt d C.M = true:=by exact rfl) (hin:(ps.all (done.contains ·)) = true:=by exact rfl):DJ C D R Hf H L all done ps ls (.q i rest) K:=CV ho hq hg hd hM hin h
theorem BE {all:Array Oper} {o:Oper} {rest:List Oper} {d:Nat} {v:Value} (h:JK C D R H ((d,v) :: L) (.ops all rest :: K)) (hq:Quiet C R H L o v:=by (apply q_neF; exact rfl; exact rfl; omega)) (hg:wantE all L o = some true:=by exact rfl) (hd:o.dst = some d:=by exact rfl) (hM:Nat.blt d C.M = true:=by exact rfl):JK C D R H L (.ops all (o :: rest) :: K):=CR hq hg hd hM h
theorem FY {all:Array Oper} {done:List Nat} {i d:Nat} {rest:Pl} {o:Oper} {v:Value} (h:DJ C D R Hf H ((d,v) :: L) all (i :: done) ps ls rest K) (ho:all[i]? = some o:=by exact rfl) (hq:Quiet C R H L o v:=by (apply q_neF; exact rfl; exact rfl; omega)) (hg:wantE all L o = some true:=by exact rfl) (hd:o.dst = some d:=by exact rfl) (hM:Nat.blt d C.M = true:=by exact rfl) (hin:(ps.all (done.contains ·)) = true:=by exact rfl):DJ C D R Hf H L all done ps ls (.q i rest) K:=CV ho hq hg hd hM hin h
theorem CP {all:Array Oper} {o:Oper} {rest:List Oper} {d:Nat} {v:Value} (h:JK C D R H ((d,v) :: L) (.ops all rest :: K)) (hq:Quiet C R H L o v:=by (apply q_gt; exact rfl; exact rfl; omega)) (hg:wantE all L o = some true:=by exact rfl) (hd:o.dst = some d:=by exact rfl) (hM:Nat.blt d C.M = true:=by exact rfl):JK C D R H L (.ops all (o :: rest) :: K):=CR hq hg hd hM h
theorem DR {all:Array Oper} {done:List Nat} {i d:Nat} {rest:Pl} {o:Oper} {v:Value} (h:DJ C D R Hf H ((d,v) :: L) all (i :: done) ps ls rest K) (ho:all[i]? = some o:=by exact rfl) (hq:Quiet C R H L o v:=by (apply q_gt; exact rfl; exact rfl; omega)) (hg:wantE all L o = some true:=by exact rfl) (hd:o.dst = some d:=by exact rfl) (hM:Nat.blt d C.M = true:=by exact rfl) (hin:(ps.all (done.contains ·)) = true:=by exact rfl):DJ C D R Hf H L all done ps ls (.q i rest) K:=CV ho hq hg hd hM hin h
theorem B4 {all:Array Oper} {o:Oper} {rest:List Oper} {d:Nat} {v:Value} (h:JK C D R H ((d,v) :: L) (.ops all rest :: K)) (hq:Quiet C R H L o v:=by (apply q_gtF; exact rfl; exact rfl; omega)) (hg:wantE all L o = some true:=by exact rfl) (hd:o.dst = some d:=by exact rfl) (hM:Nat.blt d C.M = true:=by exact rfl):JK C D R H L (.ops all (o :: rest) :: K):=CR hq hg hd hM h
theorem DH {all:Array Oper} {done:List Nat} {i d:Nat} {rest:Pl} {o:Oper} {v:Value} (h:DJ C D R Hf H ((d,v) :: L) all (i :: done) ps ls rest K) (ho:all[i]? = some o:=by exact rfl) (hq:Quiet C R H L o v:=by (apply q_gtF; exact rfl; exact rfl; omega)) (hg:wantE all L o = some true:=by exact rfl) (hd:o.dst = some d:=by exact rfl) (hM:Nat.blt d C.M = true:=by exact rfl) (hin:(ps.all (done.contains ·)) = true:=by exact rfl):DJ C D R Hf H L all done ps ls (.q i rest) K:=CV ho hq hg hd hM hin h
theorem CT {all:Array Oper} {o:Oper} {rest:List Oper} {d:Nat} {v:Value} (h:JK C D R H ((d,v) :: L) (.ops all rest :: K)) (hq:Quiet C R H L o v:=by (apply q_le; exact rfl; exact rfl; omega)) (hg:wantE all L o = some true:=by exact rfl) (hd:o.dst = some d:=by exact rfl) (hM:Nat.blt d C.M = true:=by exact rfl):JK C D R H L (.ops all (o :: rest) :: K):=CR hq hg hd hM h
theorem E8 {all:Array Oper} {done:List Nat} {i d:Nat} {rest:Pl} {o:Oper} {v:Value} (h:DJ C D R Hf H ((d,v) :: L) all (i :: done) ps ls rest K) (ho:all[i]? = some o:=by exact rfl) (hq:Quiet C R H L o v:=by (apply q_le; exact rfl; exact rfl; omega)) (hg:wantE all L o = some true:=by exact rfl) (hd:o.dst = some d:=by exact rfl) (hM:Nat.blt d C.M = true:=by exact rfl) (hin:(ps.all (done.contains ·)) = true:=by exact rfl):DJ C D R Hf H L all done ps ls (.q i rest) K:=CV ho hq hg hd hM hin h
theorem CU {all:Array Oper} {o:Oper} {rest:List Oper} {d:Nat} {v:Value} (h:JK C D R H ((d,v) :: L) (.ops all rest :: K)) (hq:Quiet C R H L o v:=by (apply q_leF; exact rfl; exact rfl; omega)) (hg:wantE all L o = some true:=by exact rfl) (hd:o.dst = some d:=by exact rfl) (hM:Nat.blt d C.M = true:=by exact rfl):JK C D R H L (.ops all (o :: rest) :: K):=CR hq hg hd hM h
theorem DS {all:Array Oper} {done:List Nat} {i d:Nat} {rest:Pl} {o:Oper} {v:Value} (h:DJ C D R Hf H ((d,v) :: L) all (i :: done) ps ls rest K) (ho:all[i]? = some o:=by exact rfl) (hq:Quiet C R H L o v:=by (apply q_leF; exact rfl; exact rfl; omega)) (hg:wantE all L o = some true:=by exact rfl) (hd:o.dst = some d:=by exact rfl) (hM:Nat.blt d C.M = true:=by exact rfl) (hin:(ps.all (done.contains ·)) = true:=by exact rfl):DJ C D R Hf H L all done ps ls (.q i rest) K:=CV ho hq hg hd hM hin h
theorem CK {all:Array Oper} {o:Oper} {rest:List Oper} {d:Nat} {v:Value} (h:JK C D R H ((d,v) :: L) (.ops all rest :: K)) (hq:Quiet C R H L o v:=by (apply q_ge; exact rfl; exact rfl; omega)) (hg:wantE all L o = some true:=by exact rfl) (hd:o.dst = some d:=by exact rfl) (hM:Nat.blt d C.M = true:=by exact rfl):JK C D R H L (.ops all (o :: rest) :: K):=CR hq hg hd hM h
theorem zd_ge {all:Array Oper} {done:List Nat} {i d:Nat} {rest:Pl} {o:Oper} {v:Value} (h:DJ C D R Hf H ((d,v) :: L) all (i :: done) ps ls rest K) (ho:all[i]? = some o:=by exact rfl) (hq:Quiet C R H L o v:=by (apply q_ge; exact rfl; exact rfl; omega)) (hg:wantE all L o = some true:=by exact rfl) (hd:o.dst = some d:=by exact rfl) (hM:Nat.blt d C.M = true:=by exact rfl) (hin:(ps.all (done.contains ·)) = true:=by exact rfl):DJ C D R Hf H L all done ps ls (.q i rest) K:=CV ho hq hg hd hM hin h
theorem BO {all:Array Oper} {o:Oper} {rest:List Oper} {d:Nat} {v:Value} (h:JK C D R H ((d,v) :: L) (.ops all rest :: K)) (hq:Quiet C R H L o v:=by (apply q_geF; exact rfl; exact rfl; omega)) (hg:wantE all L o = some true:=by exact rfl) (hd:o.dst = some d:=by exact rfl) (hM:Nat.blt d C.M = true:=by exact rfl):JK C D R H L (.ops all (o :: rest) :: K):=CR hq hg hd hM h
theorem zd_geF {all:Array Oper} {done:List Nat} {i d:Nat} {rest:Pl} {o:Oper} {v:Value} (h:DJ C D R Hf H ((d,v) :: L) all (i :: done) ps ls rest K) (ho:all[i]? = some o:=by exact rfl) (hq:Quiet C R H L o v:=by (apply q_geF; exact rfl; exact rfl; omega)) (hg:wantE all L o = some true:=by exact rfl) (hd:o.dst = some d:=by exact rfl) (hM:Nat.blt d C.M = true:=by exact rfl) (hin:(ps.all (done.contains ·)) = true:=by exact rfl):DJ C D R Hf H L all done ps ls (.q i rest) K:=CV ho hq hg hd hM hin h
theorem DZ {all:Array Oper} {o:Oper} {rest:List Oper} {d:Nat} {v:Value} (h:JK C D R H ((d,v) :: L) (.ops all rest :: K)) (hq:Quiet C R H L o v:=by (apply EQ; exact rfl; exact rfl; omega; omega)) (hg:wantE all L o = some true:=by exact rfl) (hd:o.dst = some d:=by exact rfl) (hM:Nat.blt d C.M = true:=by exact rfl):JK C D R H L (.ops all (o :: rest) :: K):=CR hq hg hd hM h
theorem BS {all:Array Oper} {done:List Nat} {i d:Nat} {rest:Pl} {o:Oper} {v:Value} (h:DJ C D R Hf H ((d,v) :: L) all (i :: done) ps ls rest K) (ho:all[i]? = some o:=by exact rfl) (hq:Quiet C R H L o v:=by (apply EQ; exact rfl; exact rfl; omega; omega)) (hg:wantE all L o = some true:=by exact rfl) (hd:o.dst = some d:=by exact rfl) (hM:Nat.blt d C.M = true:=by exact rfl) (hin:(ps.all (done.contains ·)) = true:=by exact rfl):DJ C D R Hf H L all done ps ls (.q i rest) K:=CV ho hq hg hd hM hin h
theorem CC {all:Array Oper} {o:Oper} {rest:List Oper} {d:Nat} {v:Value} (h:JK C D R H ((d,v) :: L) (.ops all rest :: K)) (hq:Quiet C R H L o v:=by (apply GQ; exact rfl; exact rfl; exact ⟨by omega,by omega⟩)) (hg:wantE all L o = some true:=by exact rfl) (hd:o.dst = some d:=by exact rfl) (hM:Nat.blt d C.M = true:=by exact rfl):JK C D R H L (.ops all (o :: rest) :: K):=CR hq hg hd hM h
theorem CW {all:Array Oper} {done:List Nat} {i d:Nat} {rest:Pl} {o:Oper} {v:Value} (h:DJ C D R Hf H ((d,v) :: L) all (i :: done) ps ls rest K) (ho:all[i]? = some o:=by exact rfl) (hq:Quiet C R H L o v:=by (apply GQ; exact rfl; exact rfl; exact ⟨by omega,by omega⟩)) (hg:wantE all L o = some true:=by exact rfl) (hd:o.dst = some d:=by exact rfl) (hM:Nat.blt d C.M = true:=by exact rfl) (hin:(ps.all (done.contains ·)) = true:=by exact rfl):DJ C D R Hf H L all done ps ls (.q i rest) K:=CV ho hq hg hd hM hin h
theorem CY {all:Array Oper} {o:Oper} {rest:List Oper} {d:Nat} {v:Value} (h:JK C D R H ((d,v) :: L) (.ops all rest :: K)) (hq:Quiet C R H L o v:=by (apply GR; exact rfl; exact rfl; exact ⟨by omega,by omega⟩)) (hg:wantE all L o = some true:=by exact rfl) (hd:o.dst = some d:=by exact rfl) (hM:Nat.blt d C.M = true:=by exact rfl):JK C D R H L (.ops all (o :: rest) :: K):=CR hq hg hd hM h
theorem DN {all:Array Oper} {done:List Nat} {i d:Nat} {rest:Pl} {o:Oper} {v:Value} (h:DJ C D R Hf H ((d,v) :: L) all (i :: done) ps ls rest K) (ho:all[i]? = some o:=by exact rfl) (hq:Quiet C R H L o v:=by (apply GR; exact rfl; exact rfl; exact ⟨by omega,by omega⟩)) (hg:wantE all L o = some true:=by exact rfl) (hd:o.dst = some d:=by exact rfl) (hM:Nat.blt d C.M = true:=by exact rfl) (hin:(ps.all (done.contains ·)) = true:=by exact rfl):DJ C D R Hf H L all done ps ls (.q i rest) K:=CV ho hq hg hd hM hin h
theorem zq_dbl {all:Array Oper} {o:Oper} {rest:List Oper} {d:Nat} {v:Value} (h:JK C D R H ((d,v) :: L) (.ops all rest :: K)) (hq:Quiet C R H L o v:=by (apply q_dbl; exact rfl; exact rfl; omega)) (hg:wantE all L o = some true:=by exact rfl) (hd:o.dst = some d:=by exact rfl) (hM:Nat.blt d C.M = true:=by exact rfl):JK C D R H L (.ops all (o :: rest) :: K):=CR hq hg hd hM h
theorem GM {all:Array Oper} {done:List Nat} {i d:Nat} {rest:Pl} {o:Oper} {v:Value} (h:DJ C D R Hf H ((d,v) :: L) all (i :: done) ps ls rest K) (ho:all[i]? = some o:=by exact rfl) (hq:Quiet C R H L o v:=by (apply q_dbl; exact rfl; exact rfl; omega)) (hg:wantE all L o = some true:=by exact rfl) (hd:o.dst = some d:=by exact rfl) (hM:Nat.blt d C.M = true:=by exact rfl) (hin:(ps.all (done.contains ·)) = true:=by exact rfl):DJ C D R Hf H L all done ps ls (.q i rest) K:=CV ho hq hg hd hM hin h
theorem EX {all:Array Oper} {o:Oper} {rest:List Oper} {d:Nat} {v:Value} (h:JK C D R H ((d,v) :: L) (.ops all rest :: K)) (hq:Quiet C R H L o v:=by (apply GS; exact rfl; exact rfl; exact ⟨by omega,by omega⟩)) (hg:wantE all L o = some true:=by exact rfl) (hd:o.dst = some d:=by exact rfl) (hM:Nat.blt d C.M = true:=by exact rfl):JK C D R H L (.ops all (o :: rest) :: K):=CR hq hg hd hM h
theorem zd_mul {all:Array Oper} {done:List Nat} {i d:Nat} {rest:Pl} {o:Oper} {v:Value} (h:DJ C D R Hf H ((d,v) :: L) all (i :: done) ps ls rest K) (ho:all[i]? = some o:=by exact rfl) (hq:Quiet C R H L o v:=by (apply GS; exact rfl; exact rfl; exact ⟨by omega,by omega⟩)) (hg:wantE all L o = some true:=by exact rfl) (hd:o.dst = some d:=by exact rfl) (hM:Nat.blt d C.M = true:=by exact rfl) (hin:(ps.all (done.contains ·)) = true:=by exact rfl):DJ C D R Hf H L all done ps ls (.q i rest) K:=CV ho hq hg hd hM hin h
theorem ED {all:Array Oper} {o:Oper} {rest:List Oper} {d:Nat} {v:Value} (h:JK C D R H ((d,v) :: L) (.ops all rest :: K)) (hq:Quiet C R H L o v:=by (apply GK; exact rfl; exact rfl; omega)) (hg:wantE all L o = some true:=by exact rfl) (hd:o.dst = some d:=by exact rfl) (hM:Nat.blt d C.M = true:=by exact rfl):JK C D R H L (.ops all (o :: rest) :: K):=CR hq hg hd hM h
theorem FZ {all:Array Oper} {done:List Nat} {i d:Nat} {rest:Pl} {o:Oper} {v:Value} (h:DJ C D R Hf H ((d,v) :: L) all (i :: done) ps ls rest K) (ho:all[i]? = some o:=by exact rfl) (hq:Quiet C R H L o v:=by (apply GK; exact rfl; exact rfl; omega)) (hg:wantE all L o = some true:=by exact rfl) (hd:o.dst = some d:=by exact rfl) (hM:Nat.blt d C.M = true:=by exact rfl) (hin:(ps.all (done.contains ·)) = true:=by exact rfl):DJ C D R Hf H L all done ps ls (.q i rest) K:=CV ho hq hg hd hM hin h
theorem EE {all:Array Oper} {o:Oper} {rest:List Oper} {d:Nat} {v:Value} (h:JK C D R H ((d,v) :: L) (.ops all rest :: K)) (hq:Quiet C R H L o v:=by (apply q_par; exact rfl; exact rfl)) (hg:wantE all L o = some true:=by exact rfl) (hd:o.dst = some d:=by exact rfl) (hM:Nat.blt d C.M = true:=by exact rfl):JK C D R H L (.ops all (o :: rest) :: K):=CR hq hg hd hM h
theorem GN {all:Array Oper} {o:Oper} {rest:List Oper} {d:Nat} {v:Value} (h:JK C D R H ((d,v) :: L) (.ops all rest :: K)) (hq:Quiet C R H L o v:=by (apply q_quo; exact rfl; exact rfl; omega; omega; omega)) (hg:wantE all L o = some true:=by exact rfl) (hd:o.dst = some d:=by exact rfl) (hM:Nat.blt d C.M = true:=by exact rfl):JK C D R H L (.ops all (o :: rest) :: K):=CR hq hg hd hM h
theorem zd_rem {all:Array Oper} {done:List Nat} {i d:Nat} {rest:Pl} {o:Oper} {v:Value} (h:DJ C D R Hf H ((d,v) :: L) all (i :: done) ps ls rest K) (ho:all[i]? = some o:=by exact rfl) (hq:Quiet C R H L o v:=by (apply q_rem; exact rfl; exact rfl; omega; omega)) (hg:wantE all L o = some true:=by exact rfl) (hd:o.dst = some d:=by exact rfl) (hM:Nat.blt d C.M = true:=by exact rfl) (hin:(ps.all (done.contains ·)) = true:=by exact rfl):DJ C D R Hf H L all done ps ls (.q i rest) K:=CV ho hq hg hd hM hin h
theorem AT {all:Array Oper} {o:Oper} {rest:List Oper} {d:Nat} {v:Value} (h:JK C D R H ((d,v) :: L) (.ops all rest :: K)) (hq:Quiet C R H L o v:=by (apply E4; exact rfl; exact rfl; (first | (exact cells_own (by (repeat (first | exact .here | apply Mem.there)); first | done | fail); exact rfl) | (exact cellsR (by assumption) (by (repeat (first | exact .here | apply Mem.there)); first | done | fail); exact rfl) | (exact cellsH (by assumption) (by (repeat (first | exact .here | apply Mem.there)); first | done | fail); exact rfl) | (exact cellsP (by assumption) (by (repeat (first | exact .here | apply Mem.there)); first | done | fail); exact rfl)))) (hg:wantE all L o = some true:=by exact rfl) (hd:o.dst = some d:=by exact rfl) (hM:Nat.blt d C.M = true:=by exact rfl):JK C D R H L (.ops all (o :: rest) :: K):=CR hq hg hd hM h
theorem BL {all:Array Oper} {done:List Nat} {i d:Nat} {rest:Pl} {o:Oper} {v:Value} (h:DJ C D R Hf H ((d,v) :: L) all (i :: done) ps ls rest K) (ho:all[i]? = some o:=by exact rfl) (hq:Quiet C R H L o v:=by (apply E4; exact rfl; exact rfl; (first | (exact cells_own (by (repeat (first | exact .here | apply Mem.there)); first | done | fail); exact rfl) | (exact cellsR (by assumption) (by (repeat (first | exact .here | apply Mem.there)); first | done | fail); exact rfl) | (exact cellsH (by assumption) (by (repeat (first | exact .here | apply Mem.there)); first | done | fail); exact rfl) | (exact cellsP (by assumption) (by (repeat (first | exact .here | apply Mem.there)); first | done | fail); exact rfl)))) (hg:wantE all L o = some true:=by exact rfl) (hd:o.dst = some d:=by exact rfl) (hM:Nat.blt d C.M = true:=by exact rfl) (hin:(ps.all (done.contains ·)) = true:=by exact rfl):DJ C D R Hf H L all done ps ls (.q i rest) K:=CV ho hq hg hd hM hin h
theorem F9 {all:Array Oper} {done:List Nat} {i d:Nat} {rest:Pl} {o:Oper} {v:Value} (h:DJ C D R Hf H ((d,v) :: L) all (i :: done) (i :: ps) ls rest K) (ho:all[i]? = some o:=by exact rfl) (hq:Quiet C R Hf L o v:=by (apply E4; exact rfl; exact rfl; (first | (exact cells_own (by (repeat (first | exact .here | apply Mem.there)); first | done | fail); exact rfl) | (exact cellsR (by assumption) (by (repeat (first | exact .here | apply Mem.there)); first | done | fail); exact rfl) | (exact cellsH (by assumption) (by (repeat (first | exact .here | apply Mem.there)); first | done | fail); exact rfl) | (exact cellsP (by assumption) (by (repeat (first | exact .here | apply Mem.there)); first | done | fail); exact rfl)))) (hg:wantE all L o = some true:=by exact rfl) (hd:o.dst = some d:=by exact rfl) (hM:Nat.blt d C.M = true:=by exact rfl):DJ C D R Hf H L all done ps ls (.p i rest) K:=GH ho hq hg hd hM h
theorem FH {all:Array Oper} {o:Oper} {rest:List Oper} {d:Nat} {v:Value} (h:JK C D R H ((d,v) :: L) (.ops all rest :: K)) (hq:Quiet C R H L o v:=by (apply q_min; exact rfl; exact rfl)) (hg:wantE all L o = some true:=by exact rfl) (hd:o.dst = some d:=by exact rfl) (hM:Nat.blt d C.M = true:=by exact rfl):JK C D R H L (.ops all (o :: rest) :: K):=CR hq hg hd hM h
theorem zd_min {all:Array Oper} {done:List Nat} {i d:Nat} {rest:Pl} {o:Oper} {v:Value} (h:DJ C D R Hf H ((d,v) :: L) all (i :: done) ps ls rest K) (ho:all[i]? = some o:=by exact rfl) (hq:Quiet C R H L o v:=by (apply q_min; exact rfl; exact rfl)) (hg:wantE all L o = some true:=by exact rfl) (hd:o.dst = some d:=by exact rfl) (hM:Nat.blt d C.M = true:=by exact rfl) (hin:(ps.all (done.contains ·)) = true:=by exact rfl):DJ C D R Hf H L all done ps ls (.q i rest) K:=CV ho hq hg hd hM hin h
theorem EY {all:Array Oper} {o:Oper} {rest:List Oper} {d:Nat} {v:Value} (h:JK C D R H ((d,v) :: L) (.ops all rest :: K)) (hq:Quiet C R H L o v:=by (apply q_max; exact rfl; exact rfl)) (hg:wantE all L o = some true:=by exact rfl) (hd:o.dst = some d:=by exact rfl) (hM:Nat.blt d C.M = true:=by exact rfl):JK C D R H L (.ops all (o :: rest) :: K):=CR hq hg hd hM h
theorem GO {all:Array Oper} {done:List Nat} {i d:Nat} {rest:Pl} {o:Oper} {v:Value} (h:DJ C D R Hf H ((d,v) :: L) all (i :: done) ps ls rest K) (ho:all[i]? = some o:=by exact rfl) (hq:Quiet C R H L o v:=by (apply q_max; exact rfl; exact rfl)) (hg:wantE all L o = some true:=by exact rfl) (hd:o.dst = some d:=by exact rfl) (hM:Nat.blt d C.M = true:=by exact rfl) (hin:(ps.all (done.contains ·)) = true:=by exact rfl):DJ C D R Hf H L all done ps ls (.q i rest) K:=CV ho hq hg hd hM hin h
theorem CF {all:Array Oper} {o:Oper} {rest:List Oper} {d:Nat} {v:Value} (h:JK C D R H ((d,v) :: L) (.ops all rest :: K)) (hq:Quiet C R H L o v:=by (apply FI; exact rfl; exact rfl)) (hg:wantE all L o = some true:=by exact rfl) (hd:o.dst = some d:=by exact rfl) (hM:Nat.blt d C.M = true:=by exact rfl):JK C D R H L (.ops all (o :: rest) :: K):=CR hq hg hd hM h
theorem EZ {all:Array Oper} {o:Oper} {rest:List Oper} {d:Nat} {v:Value} (h:JK C D R H ((d,v) :: L) (.ops all rest :: K)) (hq:Quiet C R H L o v:=by (apply F7; exact rfl; exact rfl; exact rfl)) (hg:wantE all L o = some true:=by exact rfl) (hd:o.dst = some d:=by exact rfl) (hM:Nat.blt d C.M = true:=by exact rfl):JK C D R H L (.ops all (o :: rest) :: K):=CR hq hg hd hM h
theorem GA {all:Array Oper} {o:Oper} {rest:List Oper} {d:Nat} {v:Value} (h:JK C D R H ((d,v) :: L) (.ops all rest :: K)) (hq:Quiet C R H L o v:=by (apply GY; exact rfl; exact rfl; exact rfl; exact rfl; omega)) (hg:wantE all L o = some true:=by exact rfl) (hd:o.dst = some d:=by exact rfl) (hM:Nat.blt d C.M = true:=by exact rfl):JK C D R H L (.ops all (o :: rest) :: K):=CR hq hg hd hM h
theorem EL {all:Array Oper} {done:List Nat} {i d:Nat} {rest:Pl} {o:Oper} {v:Value} (h:DJ C D R Hf H ((d,v) :: L) all (i :: done) (i :: ps) ls rest K) (ho:all[i]? = some o:=by exact rfl) (hq:Quiet C R Hf L o v:=by (apply GZ; exact rfl; exact rfl; exact rfl; exact rfl; omega)) (hg:wantE all L o = some true:=by exact rfl) (hd:o.dst = some d:=by exact rfl) (hM:Nat.blt d C.M = true:=by exact rfl):DJ C D R Hf H L all done ps ls (.p i rest) K:=GH ho hq hg hd hM h
theorem BT {all:Array Oper} {o:Oper} {rest:List Oper} {d:Nat} {v:Value} (h:JK C D R H ((d,v) :: L) (.ops all rest :: K)) (hq:Quiet C R H L o v:=by (apply FR; exact rfl; exact rfl; exact (by (repeat (first | exact Bld.nil | apply Bld.put rfl rfl rfl | apply Bld.keep rfl)); first | done | fail))) (hg:wantE all L o = some true:=by exact rfl) (hd:o.dst = some d:=by exact rfl) (hM:Nat.blt d C.M = true:=by exact rfl):JK C D R H L (.ops all (o :: rest) :: K):=CR hq hg hd hM h
theorem CD {all:Array Oper} {done:List Nat} {i d:Nat} {rest:Pl} {o:Oper} {v:Value} (h:DJ C D R Hf H ((d,v) :: L) all (i :: done) ps ls rest K) (ho:all[i]? = some o:=by exact rfl) (hq:Quiet C R H L o v:=by (apply FR; exact rfl; exact rfl; exact (by (repeat (first | exact Bld.nil | apply Bld.put rfl rfl rfl | apply Bld.keep rfl)); first | done | fail))) (hg:wantE all L o = some true:=by exact rfl) (hd:o.dst = some d:=by exact rfl) (hM:Nat.blt d C.M = true:=by exact rfl) (hin:(ps.all (done.contains ·)) = true:=by exact rfl):DJ C D R Hf H L all done ps ls (.q i rest) K:=CV ho hq hg hd hM hin h
theorem zq_neg {all:Array Oper} {o:Oper} {rest:List Oper} {d:Nat} {v:Value} (h:JK C D R H ((d,v) :: L) (.ops all rest :: K)) (hq:Quiet C R H L o v:=by (apply q_neg; exact rfl; exact ⟨by omega,by omega⟩)) (hg:wantE all L o = some true:=by exact rfl) (hd:o.dst = some d:=by exact rfl) (hM:Nat.blt d C.M = true:=by exact rfl):JK C D R H L (.ops all (o :: rest) :: K):=CR hq hg hd hM h
theorem GB {all:Array Oper} {o:Oper} {rest:List Oper} {d:Nat} {post:Value → List PH → Prop} (h:∀ u H',post u H' → JK C D R H' ((d,u) :: L) (.ops all rest :: K)) (hl:Loud C R H L o post:=by (apply E6; exact rfl; exact rfl; exact rfl; exact rfl; exact rfl; exact rfl; omega; omega)) (hg:wantE all L o = some true:=by exact rfl) (hd:o.dst = some d:=by exact rfl) (hM:Nat.blt d C.M = true:=by exact rfl):JK C D R H L (.ops all (o :: rest) :: K):=BI hl hg hd hM h
theorem GC {all:Array Oper} {done:List Nat} {i d:Nat} {rest:Pl} {o:Oper} {post:Value → List PH → Prop} (h:∀ v H',post v H' → DJ C D R Hf H' ((d,v) :: L) all (i :: done) ps (i :: ls) rest K) (ho:all[i]? = some o:=by exact rfl) (hl:Loud C R H L o post:=by (apply E6; exact rfl; exact rfl; exact rfl; exact rfl; exact rfl; exact rfl; omega; omega)) (hg:wantE all L o = some true:=by exact rfl) (hd:o.dst = some d:=by exact rfl) (hM:Nat.blt d C.M = true:=by exact rfl) (hsub:∀ v H',post v H' → ∀ w,Sat C.N R H' w → Sat C.N R H w:=by (rintro _ _ ⟨b,rfl,rfl⟩ w hw; exact hw.tail)):ActOK C D R Hf H L all done ps ls i .e rest K:=a_e ho hl hg hd hM hsub h
theorem GD {all:Array Oper} {done:List Nat} {i d:Nat} {rest:Pl} {o:Oper} {post:Value → List PH → Prop} (h:∀ v H',post v H' → DJ C D R Hf H' ((d,v) :: L) all (i :: done) ps (i :: ls) rest K) (ho:all[i]? = some o:=by exact rfl) (hl:Loud C R H L o post:=by (apply E6; exact rfl; exact rfl; exact rfl; exact rfl; exact rfl; exact rfl; omega; omega)) (hg:wantE all L o = some true:=by exact rfl) (hd:o.dst = some d:=by exact rfl) (hM:Nat.blt d C.M = true:=by exact rfl) (hsub:∀ v H',post v H' → ∀ w,Sat C.N R H' w → Sat C.N R H w:=by (rintro _ _ ⟨b,rfl,rfl⟩ w hw; exact hw.tail)):DJ C D R Hf H L all done ps ls (.l i .e rest) K:=CL (a_e ho hl hg hd hM hsub h)
theorem C8 {all:Array Oper} {o:Oper} {rest:List Oper} {d:Nat} {post:Value → List PH → Prop} (h:∀ u H',post u H' → JK C D R H' ((d,u) :: L) (.ops all rest :: K)) (hl:Loud C R H L o post:=by (apply GV; exact rfl; exact rfl; exact rfl; exact rfl; exact rfl; exact rfl; omega; omega)) (hg:wantE all L o = some true:=by exact rfl) (hd:o.dst = some d:=by exact rfl) (hM:Nat.blt d C.M = true:=by exact rfl):JK C D R H L (.ops all (o :: rest) :: K):=BI hl hg hd hM h
theorem D6 {all:Array Oper} {o:Oper} {rest:List Oper} {d:Nat} {post:Value → List PH → Prop} (h:∀ u H',post u H' → JK C D R H' ((d,u) :: L) (.ops all rest :: K)) (hl:Loud C R H L o post:=by (apply GW; exact rfl; exact rfl; exact rfl; exact rfl; exact rfl; exact rfl; omega; omega)) (hg:wantE all L o = some true:=by exact rfl) (hd:o.dst = some d:=by exact rfl) (hM:Nat.blt d C.M = true:=by exact rfl):JK C D R H L (.ops all (o :: rest) :: K):=BI hl hg hd hM h
theorem A2 {all:Array Oper} {o:Oper} {rest:List Oper} {d:Nat} {post:Value → List PH → Prop} (h:∀ u H',post u H' → JK C D R H' ((d,u) :: L) (.ops all rest :: K)) (hl:Loud C R H L o post:=by (apply EH; exact rfl)) (hg:wantE all L o = some true:=by exact rfl) (hd:o.dst = some d:=by exact rfl) (hM:Nat.blt d C.M = true:=by exact rfl):JK C D R H L (.ops all (o :: rest) :: K):=BI hl hg hd hM h
theorem E0 {all:Array Oper} {done:List Nat} {i d:Nat} {rest:Pl} {o:Oper} {post:Value → List PH → Prop} (h:∀ v H',post v H' → DJ C D R Hf H' ((d,v) :: L) all (i :: done) ps (i :: ls) rest K) (ho:all[i]? = some o:=by exact rfl) (hl:Loud C R H L o post:=by (apply EH; exact rfl)) (hg:wantE all L o = some true:=by exact rfl) (hd:o.dst = some d:=by exact rfl) (hM:Nat.blt d C.M = true:=by exact rfl) (hsub:∀ v H',post v H' → ∀ w,Sat C.N R H' w → Sat C.N R H w:=by (rintro _ _ ⟨b,rfl,rfl⟩ w hw; exact hw.tail)):ActOK C D R Hf H L all done ps ls i .e rest K:=a_e ho hl hg hd hM hsub h
theorem DI {all:Array Oper} {done:List Nat} {i d:Nat} {rest:Pl} {o:Oper} {post:Value → List PH → Prop} (h:∀ v H',post v H' → DJ C D R Hf H' ((d,v) :: L) all (i :: done) ps (i :: ls) rest K) (ho:all[i]? = some o:=by exact rfl) (hl:Loud C R H L o post:=by (apply EH; exact rfl)) (hg:wantE all L o = some true:=by exact rfl) (hd:o.dst = some d:=by exact rfl) (hM:Nat.blt d C.M = true:=by exact rfl) (hsub:∀ v H',post v H' → ∀ w,Sat C.N R H' w → Sat C.N R H w:=by (rintro _ _ ⟨b,rfl,rfl⟩ w hw; exact hw.tail)):DJ C D R Hf H L all done ps ls (.l i .e rest) K:=CL (a_e ho hl hg hd hM hsub h)
theorem B6 {all:Array Oper} {o:Oper} {rest:List Oper} {d:Nat} {post:Value → List PH → Prop} (h:∀ u H',post u H' → JK C D R H' ((d,u) :: L) (.ops all rest :: K)) (hl:Loud C R H L o post:=by (apply FE; exact rfl; exact rfl)) (hg:wantE all L o = some true:=by exact rfl) (hd:o.dst = some d:=by exact rfl) (hM:Nat.blt d C.M = true:=by exact rfl):JK C D R H L (.ops all (o :: rest) :: K):=BI hl hg hd hM h
theorem A9 {all:Array Oper} {o:Oper} {rest:List Oper} {d:Nat} {post:Value → List PH → Prop} (h:∀ u H',post u H' → JK C D R H' ((d,u) :: L) (.ops all rest :: K)) (hl:Loud C R H L o post:=by (apply C6; exact rfl; exact rfl; exact rfl; exact rfl; exact rfl; exact (by (repeat (first | exact (fun v hv=>absurd hv List.not_mem_nil) | (refine List.forall_mem_cons.2 ⟨?_,?_⟩; (focus (first | exact rfl | assumption))))); first | done | fail); exact (by (repeat (first | exact Flat.nil | apply Flat.one rfl | apply Flat.agg2 | apply Flat.agg3 | apply Flat.agg1 | apply Flat.agg4 | apply Flat.agg5)); first | done | fail); exact rfl)) (hg:wantE all L o = some true:=by exact rfl) (hd:o.dst = some d:=by exact rfl) (hM:Nat.blt d C.M = true:=by exact rfl):JK C D R H L (.ops all (o :: rest) :: K):=BI hl hg hd hM h
theorem EM {all:Array Oper} {done:List Nat} {i d:Nat} {rest:Pl} {o:Oper} {post:Value → List PH → Prop} (h:∀ v H',post v H' → DJ C D R Hf H' ((d,v) :: L) all (i :: done) ps (i :: ls) rest K) (ho:all[i]? = some o:=by exact rfl) (hl:Loud C R H L o post:=by (apply C6; exact rfl; exact rfl; exact rfl; exact rfl; exact rfl; exact (by (repeat (first | exact (fun v hv=>absurd hv List.not_mem_nil) | (refine List.forall_mem_cons.2 ⟨?_,?_⟩; (focus (first | exact rfl | assumption))))); first | done | fail); exact (by (repeat (first | exact Flat.nil | apply Flat.one rfl | apply Flat.agg2 | apply Flat.agg3 | apply Flat.agg1 | apply Flat.agg4 | apply Flat.agg5)); first | done | fail); exact rfl)) (hg:wantE all L o = some true:=by exact rfl) (hd:o.dst = some d:=by exact rfl) (hM:Nat.blt d C.M = true:=by exact rfl) (hsub:∀ v H',post v H' → ∀ w,Sat C.N R H' w → Sat C.N R H w:=by (rintro _ _ ⟨b,rfl,rfl⟩ w hw; exact hw.tail)):ActOK C D R Hf H L all done ps ls i .e rest K:=a_e ho hl hg hd hM hsub h
theorem BN {all:Array Oper} {done:List Nat} {i d:Nat} {rest:Pl} {o:Oper} {post:Value → List PH → Prop} (h:∀ v H',post v H' → DJ C D R Hf H' ((d,v) :: L) all (i :: done) ps (i :: ls) rest K) (ho:all[i]? = some o:=by exact rfl) (hl:Loud C R H L o post:=by (apply C6; exact rfl; exact rfl; exact rfl; exact rfl; exact rfl; exact (by (repeat (first | exact (fun v hv=>absurd hv List.not_mem_nil) | (refine List.forall_mem_cons.2 ⟨?_,?_⟩; (focus (first | exact rfl | assumption))))); first | done | fail); exact (by (repeat (first | exact Flat.nil | apply Flat.one rfl | apply Flat.agg2 | apply Flat.agg3 | apply Flat.agg1 | apply Flat.agg4 | apply Flat.agg5)); first | done | fail); exact rfl)) (hg:wantE all L o = some true:=by exact rfl) (hd:o.dst = some d:=by exact rfl) (hM:Nat.blt d C.M = true:=by exact rfl) (hsub:∀ v H',post v H' → ∀ w,Sat C.N R H' w → Sat C.N R H w:=by (rintro _ _ ⟨b,rfl,rfl⟩ w hw; exact hw.tail)):DJ C D R Hf H L all done ps ls (.l i .e rest) K:=CL (a_e ho hl hg hd hM hsub h)
theorem CI {all:Array Oper} {o:Oper} {rest:List Oper} {d:Nat} {post:Value → List PH → Prop} (h:∀ u H',post u H' → JK C D R H' ((d,u) :: L) (.ops all rest :: K)) (hl:Loud C R H L o post:=by (apply BK; exact rfl)) (hg:wantE all L o = some true:=by exact rfl) (hd:o.dst = some d:=by exact rfl) (hM:Nat.blt d C.M = true:=by exact rfl):JK C D R H L (.ops all (o :: rest) :: K):=BI hl hg hd hM h
theorem G5 {all:Array Oper} {done:List Nat} {i d:Nat} {rest:Pl} {o:Oper} {post:Value → List PH → Prop} (h:∀ v H',post v H' → DJ C D R Hf H' ((d,v) :: L) all (i :: done) ps (i :: ls) rest K) (ho:all[i]? = some o:=by exact rfl) (hl:Loud C R H L o post:=by (apply BK; exact rfl)) (hg:wantE all L o = some true:=by exact rfl) (hd:o.dst = some d:=by exact rfl) (hM:Nat.blt d C.M = true:=by exact rfl) (hsub:∀ v H',post v H' → ∀ w,Sat C.N R H' w → Sat C.N R H w:=by (rintro _ _ ⟨b,rfl,rfl⟩ w hw; exact hw.tail)):ActOK C D R Hf H L all done ps ls i .e rest K:=a_e ho hl hg hd hM hsub h
theorem F0 {all:Array Oper} {done:List Nat} {i d:Nat} {rest:Pl} {o:Oper} {post:Value → List PH → Prop} (h:∀ v H',post v H' → DJ C D R Hf H' ((d,v) :: L) all (i :: done) ps (i :: ls) rest K) (ho:all[i]? = some o:=by exact rfl) (hl:Loud C R H L o post:=by (apply BK; exact rfl)) (hg:wantE all L o = some true:=by exact rfl) (hd:o.dst = some d:=by exact rfl) (hM:Nat.blt d C.M = true:=by exact rfl) (hsub:∀ v H',post v H' → ∀ w,Sat C.N R H' w → Sat C.N R H w:=by (rintro _ _ ⟨b,rfl,rfl⟩ w hw; exact hw.tail)):DJ C D R Hf H L all done ps ls (.l i .e rest) K:=CL (a_e ho hl hg hd hM hsub h)
theorem EN {all:Array Oper} {o:Oper} {rest:List Oper} {d:Nat} {post:Value → List PH → Prop} (h:∀ u H',post u H' → JK C D R H' ((d,u) :: L) (.ops all rest :: K)) (hl:Loud C R H L o post:=by (apply DE; exact rfl; exact rfl)) (hg:wantE all L o = some true:=by exact rfl) (hd:o.dst = some d:=by exact rfl) (hM:Nat.blt d C.M = true:=by exact rfl):JK C D R H L (.ops all (o :: rest) :: K):=BI hl hg hd hM h
theorem CQ {all:Array Oper} {o:Oper} {rest:List Oper} {post:Value → List PH → Prop} (h:∀ u H',post u H' → JK C D R H' L (.ops all rest :: K)) (hl:Loud C R H L o post:=by (apply FF; exact rfl; exact rfl; exact rfl; exact (by (repeat (first | exact .here | apply Take.there)); first | done | fail); omega)) (hg:wantE all L o = some true:=by exact rfl) (hd:o.dst = none:=by exact rfl):JK C D R H L (.ops all (o :: rest) :: K):=CM hl hg hd h
theorem DK {all:Array Oper} {done:List Nat} {i:Nat} {rest:Pl} {o:Oper} {post:Value → List PH → Prop} (h:∀ v H',post v H' → DJ C D R Hf H' L all (i :: done) ps (i :: ls) rest K) (ho:all[i]? = some o:=by exact rfl) (hl:Loud C R H L o post:=by (apply FF; exact rfl; exact rfl; exact rfl; exact (by (repeat (first | exact .here | apply Take.there)); first | done | fail); omega)) (hg:wantE all L o = some true:=by exact rfl) (hd:o.dst = none:=by exact rfl) (hsub:∀ v H',post v H' → ∀ w,Sat C.N R H' w → Sat C.N R Hf w:=by (rintro _ _ ⟨_,rfl⟩ w hw; exact hw.sel (by (repeat (first | exact Sel.nil | (apply Sel.cons; (focus ((repeat (first | exact .here | apply Mem.there | apply Take.there)); first | done | fail))))); first | done | fail))):DJ C D R Hf H L all done ps ls (.l i .b rest) K:=CL (FJ ho hl hg hd hsub h)
theorem CZ {all:Array Oper} {o:Oper} {rest:List Oper} {post:Value → List PH → Prop} (h:∀ u H',post u H' → JK C D R H' L (.ops all rest :: K)) (hl:Loud C R H L o post:=by (apply F6; exact rfl; exact rfl; exact rfl; exact (by (repeat (first | exact .here | apply Take.there)); first | done | fail); omega)) (hg:wantE all L o = some true:=by exact rfl) (hd:o.dst = none:=by exact rfl):JK C D R H L (.ops all (o :: rest) :: K):=CM hl hg hd h
theorem AX {all:Array Oper} {o:Oper} {rest:List Oper} {post:Value → List PH → Prop} (h:∀ u H',post u H' → JK C D R H' L (.ops all rest :: K)) (hl:Loud C R H L o post:=by (apply DC; exact rfl; exact rfl; exact (by (repeat (first | exact .here | apply Take.there)); first | done | fail); exact (by (repeat (first | exact (fun v hv=>absurd hv List.not_mem_nil) | (refine List.forall_mem_cons.2 ⟨?_,?_⟩; (focus (first | exact rfl | assumption))))); first | done | fail); exact rfl; exact rfl)) (hg:wantE all L o = some true:=by exact rfl) (hd:o.dst = none:=by exact rfl):JK C D R H L (.ops all (o :: rest) :: K):=CM hl hg hd h
theorem BF {all:Array Oper} {o:Oper} {rest:List Oper} {post:Value → List PH → Prop} (h:∀ u H',post u H' → JK C D R H' L (.ops all rest :: K)) (hl:Loud C R H L o post:=by (apply EJ; exact rfl; exact rfl; (first | exact rfl | assumption); exact rfl; exact (by (repeat (first | exact .here | apply Take.there)); first | done | fail); (focus (repeat (first | exact SetL.here | apply SetL.there)); done))) (hg:wantE all L o = some true:=by exact rfl) (hd:o.dst = none:=by exact rfl):JK C D R H L (.ops all (o :: rest) :: K):=CM hl hg hd h
theorem DL {all:Array Oper} {done:List Nat} {i:Nat} {rest:Pl} {o:Oper} {post:Value → List PH → Prop} (h:∀ v H',post v H' → DJ C D R Hf H' L all (i :: done) ps (i :: ls) rest K) (ho:all[i]? = some o:=by exact rfl) (hl:Loud C R H L o post:=by (apply EJ; exact rfl; exact rfl; (first | exact rfl | assumption); exact rfl; exact (by (repeat (first | exact .here | apply Take.there)); first | done | fail); (focus (repeat (first | exact SetL.here | apply SetL.there)); done))) (hg:wantE all L o = some true:=by exact rfl) (hd:o.dst = none:=by exact rfl) (hsub:∀ v H',post v H' → ∀ w,Sat C.N R H' w → Sat C.N R Hf w:=by (rintro _ _ ⟨_,rfl⟩ w hw; exact hw.sel (by (repeat (first | exact Sel.nil | (apply Sel.cons; (focus ((repeat (first | exact .here | apply Mem.there | apply Take.there)); first | done | fail))))); first | done | fail))):DJ C D R Hf H L all done ps ls (.l i .b rest) K:=CL (FJ ho hl hg hd hsub h)
theorem GE {all:Array Oper} {done:List Nat} {i:Nat} {rest:Pl} {o:Oper} {post:Value → List PH → Prop} (h:∀ v H',post v H' → DJ C D R Hf H' L all (i :: done) ps (i :: ls) rest K) (ho:all[i]? = some o:=by exact rfl) (hl:Loud C R H L o post:=by (apply DO; exact rfl; exact rfl; (first | exact rfl | assumption); exact rfl; exact (by (repeat (first | exact .here | apply Take.there)); first | done | fail); exact (by first | decide | (simp; done) | (simp; omega)))) (hg:wantE all L o = some true:=by exact rfl) (hd:o.dst = none:=by exact rfl) (hsub:∀ v H',post v H' → ∀ w,Sat C.N R H' w → Sat C.N R Hf w:=by (rintro _ _ ⟨_,rfl⟩ w hw; exact hw.sel (by (repeat (first | exact Sel.nil | (apply Sel.cons; (focus ((repeat (first | exact .here | apply Mem.there | apply Take.there)); first | done | fail))))); first | done | fail))):DJ C D R Hf H L all done ps ls (.l i .b rest) K:=CL (FJ ho hl hg hd hsub h)
end Go.Eng
/- Maps from int to int: made, looked up, changed. No conditions. -/
namespace Go.Eng
variable {C:Cx} {D:List Deferred} {R H:List PH} {L:Env} {K:List It}
variable {dst:Option Tmp} {ty:TypeId} {pos:String} {aft:Array Edge} {g:Option (Nat × Bool)}
def ents:Nat → List (Int × Int) → List MapEntry
  | _,[]=>[]
  | i,kv :: m=>⟨int kv.1,int kv.2,i⟩ :: ents (i + 1) m
def mapO (m:List (Int × Int)):Obj:=.map (ents 0 m).toArray m.length
def midx (k:Int):List (Int × Int) → Option (Nat × Int)
  | []=>none
  | (a,v) :: m=>if k = a then some (0,v) else (midx k m).map (fun p=>(p.1 + 1,p.2))
def mget (k:Int) (m:List (Int × Int)):Option Int:=(midx k m).map (·.2)
def mset (k v:Int):List (Int × Int) → List (Int × Int)
  | []=>[(k,v)]
  | (a,w) :: m=>if k = a then (a,v) :: m else (a,w) :: mset k v m
theorem findNow_ents (k:Int):∀ (m:List (Int × Int)) (i j:Nat),Instr.findNow (.int .i64) (int k) (ents i m) j = some ((midx k m).map (fun p=>(j + p.1,int p.2)))
  | [],i,j=>rfl
  | (a,v) :: m,i,j=>by
    by_cases h:k = a
    · subst h
      simp [ents,Instr.findNow,Instr.sameNow,midx,int]
    · have ih:=findNow_ents k m (i + 1) (j + 1)
      have hs:Instr.sameNow (.int .i64) (int k) (int a) = some false:=by simp [Instr.sameNow,int,h]
      simp only [ents,Instr.findNow,hs,midx,if_neg h,ih,Option.map_map]
      congr 2
      funext p
      show (j + 1 + p.1,int p.2) = (j + (p.1 + 1),int p.2)
      rw [show j + 1 + p.1 = j + (p.1 + 1) by omega]
theorem mset_none {k v:Int}:∀ {m:List (Int × Int)} (i:Nat),midx k m = none → ents i m ++ [⟨int k,int v,i + m.length⟩] = ents i (mset k v m) ∧ (mset k v m).length = m.length + 1
  | [],i,_=>⟨rfl,rfl⟩
  | (a,w) :: m,i,h=>by
    unfold midx at h
    split at h
    · exact absurd h (by simp)
    · rename_i hk
      have h':midx k m = none:=by simpa using h
      obtain ⟨e,l⟩:=mset_none (k:=k) (v:=v) (m:=m) (i + 1) h'
      simp only [mset,if_neg hk,ents,List.cons_append,List.length_cons,l,and_true,← e]
      congr 4
      omega
theorem mset_some {k v:Int}:∀ {m:List (Int × Int)} (i n:Nat) (w:Int),midx k m = some (n,w) → (ents i m).modify n (fun e=>{ e with key:=int k,val:=int v }) = ents i (mset k v m) ∧ (mset k v m).length = m.length ∧ n < m.length ∧ ((ents i m)[n]?).map (·.key) = some (int k)
  | [],i,n,w,h=>by simp [midx] at h
  | (a,u) :: m,i,n,w,h=>by
    unfold midx at h
    split at h
    · rename_i hk
      subst hk
      simp at h
      obtain ⟨rfl,rfl⟩:=h
      simp [ents,mset]
    · rename_i hk
      cases hm:midx k m with
      | none=>rw [hm] at h; simp at h
      | some p =>
        rw [hm] at h
        simp at h
        obtain ⟨rfl,rfl⟩:=h
        obtain ⟨e,l,l2,l3⟩:=mset_some (k:=k) (v:=v) (m:=m) (i + 1) p.1 p.2 hm
        simp only [mset,if_neg hk,ents,List.length_cons,l,List.modify_succ_cons,e]
        refine ⟨trivial,trivial,by omega,?_⟩
        simpa using l3
theorem EU {t:TypeId}:Loud C R H L ⟨dst,.makeMap t none,ty,pos,aft,g⟩ (fun v H'=>∃ b,v = .map (some b) ∧ H' = sng b (mapO []) :: H):=by
  refine ⟨fun a w hx hs next Q hn=>?_⟩
  refine wpIn_value (v:=.map (some w.heap.size)) (w':=w.alloc (mapO [])) (by intro c; simp) ?_ (hn _ _ _ ⟨_,rfl,rfl⟩ (hs.alloc _))
  simp [execOp,Instr.makeMap,newObj]
  rfl
theorem run_checkKey {P:Program} {w:World} {kt:TypeId} {k:Int} (e:Bool) (n:Nat) (hkt:P.underlying kt = some (.int .i64)):(Instr.checkKey e (n + 1) kt (int k)).run P w = .ok () w:=by
  simp [Instr.checkKey,Go.underlying,Sem.run,hkt,int]
theorem run_findKey {P:Program} {w:World} {kt:TypeId} {k:Int} {l:List (Int × Int)} (hkt:P.underlying kt = some (.int .i64)):(Instr.findKey kt (int k) (ents 0 l)).run P w = .ok ((midx k l).map (fun p=>(p.1,int p.2))) w:=by
  have hf:=findNow_ents k l 0 0
  simp only [Nat.zero_add] at hf
  simp [Instr.findKey,Go.underlying,Sem.run,hkt,hf]
theorem run_lookup {P:Program} {w:World} {t kt et:TypeId} {b:Nat} {k:Int} {l:List (Int × Int)} {ok:Bool} (ht:P.underlying t = some (.map kt et)) (hkt:P.underlying kt = some (.int .i64)) (hz:zeroP P et = some (int 0)) (hg:w.heap[b]? = some (mapO l)) :
    (Instr.lookup t (.map (some b)) (int k) ok).run P w = .ok (if ok then .tuple #[int ((mget k l).getD 0),.bool (mget k l).isSome] else int ((mget k l).getD 0)) w:=by
  have hf:=run_findKey (P:=P) (w:=w) (k:=k) (l:=l) hkt
  have hc:=fun e=>run_checkKey (P:=P) (w:=w) (k:=k) e 9999 hkt
  simp only [Nat.reduceAdd] at hc;unfold mget
  cases hm:midx k l with
  | none =>
    rw [hm] at hf
    simp [Instr.lookup,Go.underlying,Sem.run,ht,getObj,hg,mapO,hc,hf,run_zeroValue hz]
    done
  | some p =>
    rw [hm] at hf
    simp [Instr.lookup,Go.underlying,Sem.run,ht,getObj,hg,mapO,hc,hf]
    done
def MapAt (N:Bs) (R H:List PH) (b:Nat) (l:List (Int × Int)):Prop:=∀ w,Sat N R H w → w.heap[b]? = some (mapO l)
theorem mapAt_own {N:Bs} {b:Nat} {l:List (Int × Int)} (m:Mem (sng b (mapO l)) H):MapAt N R H b l:=fun w hs=>hs.h _ m.mem b _ (sng_self b _)
theorem mapAt_rd {N:Bs} {b:Nat} {l:List (Int × Int)} (m:Mem (sng b (mapO l)) R):MapAt N R H b l:=fun w hs=>hs.r _ m.mem b _ (sng_self b _)
theorem DQ {x y:Operand} {t kt et:TypeId} {b:Nat} {k:Int} {l:List (Int × Int)} (h:evalE L x = some (.map (some b))) (hk:evalE L y = some (int k)) (ht:C.P.underlying t = some (.map kt et)) (hkt:C.P.underlying kt = some (.int .i64)) (hz:zeroP C.P et = some (int 0)) (hm:MapAt C.N R H b l) :
    Quiet C R H L ⟨dst,.lookup t x y false,ty,pos,aft,g⟩ (int ((mget k l).getD 0)):=
  ⟨by intro c; simp,fun a w hx hs=>by
    have e1:=hx x (by simp [Op.operands]) _ h
    have e2:=hx y (by simp [Op.operands]) _ hk
    simp [execOp,e1,e2,run_lookup ht hkt hz (hm w hs)]⟩
theorem EV {x y:Operand} {t kt et:TypeId} {b:Nat} {k:Int} {l:List (Int × Int)} (h:evalE L x = some (.map (some b))) (hk:evalE L y = some (int k)) (ht:C.P.underlying t = some (.map kt et)) (hkt:C.P.underlying kt = some (.int .i64)) (hz:zeroP C.P et = some (int 0)) (hm:MapAt C.N R H b l) :
    Quiet C R H L ⟨dst,.lookup t x y true,ty,pos,aft,g⟩ (.tuple #[int ((mget k l).getD 0),.bool (mget k l).isSome]):=
  ⟨by intro c; simp,fun a w hx hs=>by
    have e1:=hx x (by simp [Op.operands]) _ h
    have e2:=hx y (by simp [Op.operands]) _ hk
    simp [execOp,e1,e2,run_lookup ht hkt hz (hm w hs)]⟩
theorem run_mapUpdate {P:Program} {w:World} {t kt et:TypeId} {b:Nat} {k v:Int} {l:List (Int × Int)} (ht:P.underlying t = some (.map kt et)) (hkt:P.underlying kt = some (.int .i64)) (hg:w.heap[b]? = some (mapO l)) :
    (Instr.mapUpdate t (.map (some b)) (int k) (int v)).run P w = .ok () { w with heap:=w.heap.setIfInBounds b (mapO (mset k v l)) }:=by
  have hf:=run_findKey (P:=P) (w:=w) (k:=k) (l:=l) hkt
  have hc:=fun e=>run_checkKey (P:=P) (w:=w) (k:=k) e 9999 hkt
  simp only [Nat.reduceAdd] at hc
  cases hm:midx k l with
  | none =>
    rw [hm] at hf
    obtain ⟨e,n⟩:=mset_none (k:=k) (v:=v) 0 hm
    have e2:mapO (mset k v l) = .map ((ents 0 l).toArray.push ⟨int k,int v,l.length⟩) (l.length + 1):=by
      unfold mapO; rw [n,← e]; simp
    rw [e2]
    simp [Instr.mapUpdate,Go.underlying,Sem.run,ht,getObj,hg,mapO,hc,hf,setObj]
    done
  | some p =>
    rw [hm] at hf
    obtain ⟨e,n,n2,n3⟩:=mset_some (k:=k) (v:=v) 0 p.1 p.2 hm
    have e2:mapO (mset k v l) = .map ((ents 0 l).toArray.modify p.1 (fun e=>{ e with key:=int k,val:=int v })) l.length:=by
      unfold mapO; rw [n,← e]; simp
    rw [e2]
    have hsb:Instr.sameBits 10000 (int k) (int k) = true:=by simp [Instr.sameBits,int]
    have hks:(Instr.keyThatStays (int k) (int k)).run P w = .ok (int k) w:=by simp [Instr.keyThatStays,hsb]
    simp [Instr.mapUpdate,Go.underlying,Sem.run,ht,getObj,hg,mapO,hc,hf,setObj,n3,hks]
    done
theorem EB {x y z:Operand} {t kt et:TypeId} {b:Nat} {k v:Int} {l:List (Int × Int)} {H':List PH} (h:evalE L x = some (.map (some b))) (hk:evalE L y = some (int k)) (hv:evalE L z = some (int v)) (ht:C.P.underlying t = some (.map kt et)) (hkt:C.P.underlying kt = some (.int .i64)) (hm:Take (sng b (mapO l)) H H') :
    Loud C R H L ⟨dst,.mapUpdate t x y z,ty,pos,aft,g⟩ (fun u H2=>u = undef ∧ H2 = sng b (mapO (mset k v l)) :: H'):=by
  refine ⟨fun a w hx hs next Q hnx=>?_⟩
  have hg:=hs.own hm
  have e1:=hx x (by simp [Op.operands]) _ h
  have e2:=hx y (by simp [Op.operands]) _ hk
  have e3:=hx z (by simp [Op.operands]) _ hv
  refine wpIn_skipv (w':={ w with heap:=w.heap.setIfInBounds b (mapO (mset k v l)) }) (by intro c; simp) ?_ (hnx _ _ _ ⟨rfl,rfl⟩ (hs.turn hm ?_ ?_ ?_))
  · simp [execOp,e1,e2,e3,run_mapUpdate ht hkt hg]
  · simp
  · have:b < w.heap.size:=by
      rw [Array.getElem?_eq_some_iff] at hg; exact hg.1
    simp [this]
  · intro k hk; simp [Array.getElem?_setIfInBounds,Ne.symm hk]
end Go.Eng
/- Plans: contacts, what is wrong with a plan. No program in sight. No conditions. -/
namespace Go.Step
structure Ct where
  f:Int
  t:Int
  s:Int
  e:Int
  r:Int
  g:Int
  l:Int
def okCt (c:Ct):Prop:=(0 ≤ c.f ∧ c.f ≤ 15) ∧ (0 ≤ c.t ∧ c.t ≤ 15) ∧ (1 ≤ c.r ∧ c.r ≤ 1000) ∧ (1 ≤ c.g ∧ c.g ≤ 1048576) ∧ (0 ≤ c.l ∧ c.l ≤ 16)
instance (c:Ct):Decidable (okCt c):=inferInstanceAs (Decidable (_ ∧ _))
def chkCt (c:Ct):Int:=if ¬ okCt c then 2 else if c.f = c.t then 1 else if c.s < 0 ∨ c.e ≤ c.s ∨ 1099511627776 - 2 * c.g < c.e then 2 else 0
def ovl (c d:Ct):Bool:=decide (chkCt c = 0 ∧ chkCt d = 0 ∧ c.f = d.f ∧ c.t = d.t ∧ c.s < d.e ∧ d.s < c.e)
theorem ovl_comm (c d:Ct):ovl c d = ovl d c:=by
  unfold ovl
  by_cases h:chkCt c = 0 ∧ chkCt d = 0 ∧ c.f = d.f ∧ c.t = d.t ∧ c.s < d.e ∧ d.s < c.e
  · rw [decide_eq_true h,decide_eq_true (by omega)]
  · rw [decide_eq_false h,decide_eq_false (by omega)]
theorem chkCt_se {c:Ct} (h:chkCt c = 0):0 ≤ c.s ∧ c.s < c.e ∧ c.e ≤ 1099511627776:=by
  unfold chkCt at h
  split at h
  · omega
  · rename_i hk
    split at h
    · omega
    · split at h
      · omega
      · unfold okCt at hk
        omega
def firstE (e:Nat → Int):Nat → Int
  | 0=>0
  | n + 1=>if firstE e n ≠ 0 then firstE e n else e n
theorem firstE_ok {e:Nat → Int} {k:Nat} (h:firstE e k = 0) (h2:e k = 0):firstE e (k + 1) = 0:=by simp [firstE,h,h2]
theorem firstE_hit {e:Nat → Int} {k:Nat} (h:firstE e k = 0) (h2:e k ≠ 0):∀ n,k < n → firstE e n = e k
  | 0,hn=>by omega
  | n + 1,hn=>by
    by_cases hk:k = n
    · subst hk; simp [firstE,h]
    · have ih:=firstE_hit h h2 n (by omega)
      simp [firstE,ih,h2]
theorem firstE_zero {e:Nat → Int}:∀ {n:Nat},firstE e n = 0 → ∀ k,k < n → e k = 0
  | 0,_,k,hk=>by omega
  | n + 1,h,k,hk=>by
    unfold firstE at h
    split at h
    · contradiction
    · rename_i hc
      have hc':firstE e n = 0:=Decidable.not_not.1 hc
      by_cases e':k = n
      · subst e'; exact h
      · exact firstE_zero hc' k (by omega)
theorem firstE_all {e:Nat → Int}:∀ {n:Nat},(∀ k,k < n → e k = 0) → firstE e n = 0
  | 0,_=>rfl
  | n + 1,h=>firstE_ok (firstE_all (fun k hk=>h k (by omega))) (h n (by omega))
def quoE (qs:List Int) (i:Nat):Int:=match qs[i]? with
  | some q=>if q < 0 ∨ 1073741824 < q then 2 else 0
  | none=>0
def ctE (n:Nat) (cs:List Ct) (i:Nat):Int:=match cs[i]? with
  | some c=>if chkCt c ≠ 0 then chkCt c else if (n:Int) ≤ c.f ∨ (n:Int) ≤ c.t then 2 else if (cs.take i).any (ovl c) then 14 else 0
  | none=>0
def chkPl (qs:List Int) (cs:List Ct):Int:=
  if qs.length < 1 ∨ 16 < qs.length ∨ 64 < cs.length then 4 else if firstE (quoE qs) qs.length ≠ 0 then firstE (quoE qs) qs.length else firstE (ctE qs.length cs) cs.length
end Go.Step
/- Contacts and plans: what is wrong with them, of the program and of the references. -/
namespace Go.Proofs.YtphehihohghfoaaGreat
open Go.Eng Go.Step
set_option maxRecDepth 100000
set_option maxHeartbeats 4000000

def encC (c:Ct):List Value:=[int c.f,int c.t,int c.s,int c.e,int c.r,int c.g,int c.l]
theorem encC_len (c:Ct):(encC c).length = 7:=rfl
theorem within_spec (a l h:Int):Ans Tryz.prog (fv 167) [int a,int l,int h] [] (fun r=>(r = .bool true ∧ l ≤ a ∧ a ≤ h) ∨ (r = .bool false ∧ ¬ (l ≤ a ∧ a ≤ h))):=by
 refine spec_in (cap:=[]) Tryz.func167 rfl rfl Tryz.ntmps167 rfl envZ (fun N β=>?_)
 by_cases h1:l ≤ a
 ·by_cases h2:a ≤ h
  ·refine AD ?_
   refine AA ?_;refine AC ?_;refine AE ?_;refine AD ?_;refine AA ?_;refine AB ?_;refine AB ?_;refine CK ?_;refine AB ?_;refine AB ?_;refine AB ?_;refine CT ?_;refine AQ ?_;refine AC ?_;refine AE ?_;exact AI (res1 rfl rfl) rsubZ selZ ⟨rfl,.inl ⟨rfl,h1,h2⟩⟩
  ·refine AD ?_
   refine AA ?_;refine AC ?_;refine AE ?_;refine AD ?_;refine AA ?_;refine AB ?_;refine AB ?_;refine CK ?_;refine AB ?_;refine AB ?_;refine AB ?_;refine CU ?_;refine AQ ?_;refine AC ?_;refine AE ?_
   exact AI (res1 rfl rfl) rsubZ selZ ⟨rfl,.inr ⟨rfl,by omega⟩⟩
 ·refine AD ?_
  refine AA ?_;refine AC ?_;refine AE ?_;refine AD ?_;refine AA ?_;refine AB ?_;refine AB ?_;refine BO ?_;refine AB ?_;refine AH rfl rfl rfl ?_;refine AH rfl rfl rfl ?_;refine AH rfl rfl rfl ?_;refine AL ?_;refine AC ?_;refine AE ?_
  exact AI (res1 rfl rfl) rsubZ selZ ⟨rfl,.inr ⟨rfl,by omega⟩⟩
set_option maxHeartbeats 16000000 in
theorem ctCheck_spec (c:Ct):Ans Tryz.prog (fv 155) [.agg #[int c.f,int c.t,int c.s,int c.e,int c.r,int c.g,int c.l]] [] (fun r=>r = int (chkCt c)):=by
 refine spec_in (cap:=[]) Tryz.func155 rfl rfl Tryz.ntmps155 rfl envZ (fun N β=>?_)
 repeat' (first
  | (refine AB ?_)
  | (refine AC ?_)
  | (refine AF ?_)
  | (refine AG ?_)
  | (refine AQ ?_)
  | (refine AL ?_)
  | (refine BJ ?_)
  | (refine CY ?_)
  | (refine EX ?_)
  | (refine AD ?_)
  | (refine AA ?_)
  | (refine AE ?_)
  | (refine AK ?_)
  | (refine AO rfl ?_)
  | (refine AN rfl ?_)
  | (refine AH rfl rfl rfl ?_)
  | (focus ((refine A4 (within_spec _ _ _) rfl rfl rdZ rfl rfl ?_; rintro v (⟨rfl,h⟩ | ⟨rfl,h⟩))))
  | (refine CI ?_; rintro _ _ ⟨b,rfl,rfl⟩)
  | (focus ((refine B9 rfl rfl (cmp_eq _ _) rfl rfl (fun h=>?_) (fun h=>?_))))
  | (focus ((refine B9 rfl rfl (cmp_lt _ _) rfl rfl (fun h=>?_) (fun h=>?_))))
  | (focus ((refine B9 rfl rfl (cmp_le _ _) rfl rfl (fun h=>?_) (fun h=>?_))))
  | fail)
 all_goals (refine AI (res1 rfl rfl) rsubZ selZ ⟨rfl,?_⟩)
 all_goals (unfold chkCt okCt; (repeat' split) <;> first | rfl | (exfalso; omega))
set_option maxHeartbeats 16000000 in
theorem refCtCheck_spec (c:Ct):Ans Tryz.prog (fv 123) [.agg #[int c.f,int c.t,int c.s,int c.e,int c.r,int c.g,int c.l]] [] (fun r=>r = int (chkCt c)):=by
 refine spec_in (cap:=[]) Tryz.func123 rfl rfl Tryz.ntmps123 rfl envZ (fun N β=>?_)
 repeat' (first
  | (refine AB ?_)
  | (refine AC ?_)
  | (refine AF ?_)
  | (refine AG ?_)
  | (refine AQ ?_)
  | (refine AL ?_)
  | (refine CY ?_)
  | (refine EX ?_)
  | (refine AD ?_)
  | (refine AA ?_)
  | (refine AE ?_)
  | (refine AK ?_)
  | (refine AO rfl ?_)
  | (refine AN rfl ?_)
  | (refine AH rfl rfl rfl ?_)
  | (refine CI ?_; rintro _ _ ⟨b,rfl,rfl⟩)
  | (focus ((refine B9 rfl rfl (cmp_eq _ _) rfl rfl (fun h=>?_) (fun h=>?_))))
  | (focus ((refine B9 rfl rfl (cmp_lt _ _) rfl rfl (fun h=>?_) (fun h=>?_))))
  | (focus ((refine B9 rfl rfl (cmp_le _ _) rfl rfl (fun h=>?_) (fun h=>?_))))
  | fail)
 all_goals (refine AI (res1 rfl rfl) rsubZ selZ ⟨rfl,?_⟩)
 all_goals (unfold chkCt okCt; (repeat' split) <;> first | rfl | (exfalso; omega))
theorem overlap_spec (c d:Ct):Ans Tryz.prog (fv 158) [.agg #[int c.f,int c.t,int c.s,int c.e,int c.r,int c.g,int c.l],.agg #[int d.f,int d.t,int d.s,int d.e,int d.r,int d.g,int d.l]] [] (fun r=>r = .bool (ovl c d)):=by
 refine spec_in (cap:=[]) Tryz.func158 rfl rfl Tryz.ntmps158 rfl envZ (fun N β=>?_)
 have hc:=ctCheck_spec c
 have hd:=ctCheck_spec d
 have sc:=@chkCt_se c
 have sd:=@chkCt_se d
 unfold ovl
 generalize chkCt c = x at hc sc
 generalize chkCt d = y at hd sd
 repeat' (first
  | (refine AB ?_)
  | (refine AC ?_)
  | (refine AF ?_)
  | (refine AG ?_)
  | (refine AQ ?_)
  | (refine AL ?_)
  | (refine AT ?_)
  | (refine FH ?_)
  | (refine EY ?_)
  | (refine AD ?_)
  | (refine AA ?_)
  | (refine AE ?_)
  | (refine AK ?_)
  | (refine AO rfl ?_)
  | (refine AN rfl ?_)
  | (refine AH rfl rfl rfl ?_)
  | (focus ((refine A4 hc rfl rfl rdZ rfl rfl ?_; rintro _ rfl)))
  | (focus ((refine A4 hd rfl rfl rdZ rfl rfl ?_; rintro _ rfl)))
  | (refine CI ?_; rintro _ _ ⟨b,rfl,rfl⟩)
  | (focus ((refine B9 rfl rfl (cmp_ne _ _) rfl rfl (fun h=>?_) (fun h=>?_))))
  | (focus ((refine B9 rfl rfl (cmp_lt _ _) rfl rfl (fun h=>?_) (fun h=>?_))))
  | fail)
 all_goals (refine AI (res1 rfl rfl) rsubZ selZ ⟨rfl,?_⟩)
 all_goals (congr 1; first | exact (decide_eq_false (by omega)).symm | exact (decide_eq_true (by omega)).symm | (apply decide_eq_decide.2; constructor <;> intro <;> omega))
theorem refOverlap_spec (c d:Ct):Ans Tryz.prog (fv 124) [.agg #[int c.f,int c.t,int c.s,int c.e,int c.r,int c.g,int c.l],.agg #[int d.f,int d.t,int d.s,int d.e,int d.r,int d.g,int d.l]] [] (fun r=>r = .bool (ovl c d)):=by
 refine spec_in (cap:=[]) Tryz.func124 rfl rfl Tryz.ntmps124 rfl envZ (fun N β=>?_)
 have hc:=refCtCheck_spec c
 have hd:=refCtCheck_spec d
 unfold ovl
 generalize chkCt c = x at hc
 generalize chkCt d = y at hd
 repeat' (first
  | (refine AB ?_)
  | (refine AC ?_)
  | (refine AF ?_)
  | (refine AG ?_)
  | (refine AQ ?_)
  | (refine AL ?_)
  | (refine AT ?_)
  | (refine AD ?_)
  | (refine AA ?_)
  | (refine AE ?_)
  | (refine AH rfl rfl rfl ?_)
  | (focus ((refine A4 hc rfl rfl rdZ rfl rfl ?_; rintro _ rfl)))
  | (focus ((refine A4 hd rfl rfl rdZ rfl rfl ?_; rintro _ rfl)))
  | (refine CI ?_; rintro _ _ ⟨b,rfl,rfl⟩)
  | (focus ((refine B9 rfl rfl (cmp_eq _ _) rfl rfl (fun h=>?_) (fun h=>?_))))
  | (focus ((refine B9 rfl rfl (cmp_lt _ _) rfl rfl (fun h=>?_) (fun h=>?_))))
  | fail)
 all_goals (refine AI (res1 rfl rfl) rsubZ selZ ⟨rfl,?_⟩)
 all_goals (congr 1; first | exact (decide_eq_false (by omega)).symm | exact (decide_eq_true (by omega)).symm | (apply decide_eq_decide.2; constructor <;> intro <;> omega))
end Go.Proofs.YtphehihohghfoaaGreat
/- What is wrong with a plan, of the program and of the reference. -/
namespace Go.Proofs.YtphehihohghfoaaGreat
open Go.Eng Go.Step
set_option maxRecDepth 100000
set_option maxHeartbeats 4000000

theorem indexC_spec (ρ:PH) (Rs:List PH) (v fn:Value) (l:List Ct) (p:Ct → Bool) (hv:SlE encC 7 ρ v l) (hl:l.length ≤ 9223372036854775807) (hfn:∀ (i:Nat) (x:Ct),l[i]? = some x → Ans Tryz.prog fn [.agg (encC x).toArray] Rs (fun r=>r = .bool (p x))) :
  Ans Tryz.prog (fv 168) [v,fn] (ρ :: Rs) (fun r=>(∃ (i:Nat) (x:Ct),l[i]? = some x ∧ p x = true ∧ (∀ (j:Nat) (y:Ct),j < i → l[j]? = some y → p y = false) ∧ r = int i) ∨ ((∀ x ∈ l,p x = false) ∧ r = int (-1))):=by
 obtain ⟨q,c,rfl,hr⟩:=hv.val encC_len
 refine spec_in (cap:=[]) Tryz.func168 rfl rfl Tryz.ntmps168 rfl envZ (fun N β=>?_)
 refine AD ?_;refine AA ?_;refine AC ?_;refine AE ?_;refine AD ?_;refine AD ?_;refine AA ?_;refine AB ?_;refine AV ?_;refine AB ?_;refine AE ?_;refine AP ?_
 refine BB [0,1,7] (0:Nat) (fun k=>k ≤ l.length ∧ ∀ (i:Nat) (x:Ct),i < k → l[i]? = some x → p x = false) (fun k=>[(8,int k)]) (fun _=>[]) (fun k=>l.length - k) pickZ ⟨by omega,fun i x h=>by omega⟩ covZ selZ ?_
 rintro k ⟨hk,hI⟩
 by_cases hlt:k < l.length
 ·have hx:=List.getElem?_eq_getElem hlt
  obtain ⟨b1,o1,rfl,hrd⟩:=hr k _ hx
  have hrd2:RdN ρ b1 (o1 + k * 7) (encC l[k]):=hrd
  have hf:=hfn k _ hx
  refine AD ?_;refine AA ?_;refine BD ?_;refine AE ?_;refine AD ?_;refine AO rfl ?_;refine AK ?_;refine AD ?_;refine AP ?_;refine AD ?_;refine AA ?_;refine AB ?_;refine AC ?_;refine AE ?_;refine AD ?_;refine AA ?_;refine AB ?_;refine AB ?_;refine AB ?_;refine A3 ?_;refine AT ?_
  refine A4 hf rfl rfl (fun τ hτ=>.inl (by simp [hτ])) rfl rfl ?_
  rintro _ rfl
  cases hp:p l[k] with
  | true =>
   refine AE ?_;refine AO rfl ?_;refine AD ?_;refine AA ?_;refine AB ?_;refine AC ?_;refine AE ?_;exact AI (res1 rfl rfl) rsubZ selZ ⟨rfl,.inl ⟨k,l[k],hx,hp,hI,rfl⟩⟩
  | false =>
   refine AE ?_;refine AN rfl ?_;refine AK ?_;refine AZ ?_;refine AA ?_;refine A7 ?_;refine AB ?_;refine AE ?_
   refine AU (k + 1) ⟨by omega,fun i x hi hix=>?_⟩ (by omega) covZ selZ
   by_cases e:i = k
   ·subst e; rw [hx] at hix; injection hix with hix; rw [← hix]; exact hp
   ·exact hI i x (by omega) hix
 ·refine AD ?_
  refine AA ?_;refine AY ?_;refine AE ?_;refine AD ?_;refine AN rfl ?_;refine A5 rfl ?_;refine AD ?_;refine AA ?_;refine AC ?_;refine AE ?_
  refine AI (res1 rfl rfl) rsubZ selZ ⟨rfl,.inr ⟨fun x hx=>?_,rfl⟩⟩
  obtain ⟨i,hi,rfl⟩:=List.getElem_of_mem hx
  exact hI i _ (by omega) (List.getElem?_eq_getElem hi)
theorem contC_spec (ρ:PH) (Rs:List PH) (v fn:Value) (l:List Ct) (p:Ct → Bool) (hv:SlE encC 7 ρ v l) (hl:l.length ≤ 9223372036854775807) (hfn:∀ (i:Nat) (x:Ct),l[i]? = some x → Ans Tryz.prog fn [.agg (encC x).toArray] Rs (fun r=>r = .bool (p x))) :
  Ans Tryz.prog (fv 156) [v,fn] (ρ :: Rs) (fun r=>r = .bool (l.any p)):=by
 have hix:=indexC_spec ρ Rs v fn l p hv hl hfn
 obtain ⟨q,c,rfl,hr⟩:=hv.val encC_len
 refine spec_in (cap:=[]) Tryz.func156 rfl rfl Tryz.ntmps156 rfl envZ (fun N β=>?_)
 refine AD ?_;refine AA ?_;refine AC ?_;refine AE ?_;refine AD ?_;refine AA ?_;refine AB ?_;refine AB ?_
 refine A4 hix rfl rfl (fun τ hτ=>.inl (List.mem_cons_of_mem _ hτ)) rfl rfl ?_
 rintro _ (⟨i,x,hi,hp,_,rfl⟩ | ⟨hall2,rfl⟩)
 ·have hfl:l.any p = true:=List.any_eq_true.2 ⟨x,List.mem_of_getElem? hi,hp⟩
  refine CK ?_;refine AC ?_;refine AE ?_
  exact AI (res1 rfl rfl) rsubZ selZ ⟨rfl,by rw [hfl]⟩
 ·have hfl:l.any p = false:=List.any_eq_false.2 (fun x hx=>by rw [hall2 x hx]; simp)
  refine BO ?_;refine AC ?_;refine AE ?_
  exact AI (res1 rfl rfl) rsubZ selZ ⟨rfl,by rw [hfl]⟩

theorem SlE.pre {α:Type} {enc:α → List Value} {s:Nat} {ρ:PH} {p:Option Addr} {n c:Nat} {l:List α} (h:SlE enc s ρ (.slice p n c) l) (he:∀ x,(enc x).length = s) {k:Nat} (hk:k ≤ l.length):SlE enc s ρ (.slice (cutP p c 0 s) k c) (l.take k):=by
 have hlen:(l.take k).length = k:=by rw [List.length_take]; omega
 have hfl:(l.take k).flatMap enc ++ (l.drop k).flatMap enc = l.flatMap enc:=by rw [← List.flatMap_append,List.take_append_drop]
 have hll:((l.take k).flatMap enc).length = k * s:=by
  have:=flat_len he (l.take k)
  rwa [hlen] at this
 unfold SlE;rw [hlen];refine ⟨hll,?_⟩
 by_cases h0:k = 0
 ·subst h0; exact .inl ⟨rfl,_,_,rfl⟩
 ·obtain ⟨_,⟨hn,_⟩ | ⟨b,o,c',e,hr⟩⟩:=h
  ·omega
  ·simp only [Value.slice.injEq] at e
   obtain ⟨rfl,rfl,rfl⟩:=e
   refine .inr ⟨b,o,c,?_,fun j u hu=>hr j u ?_⟩
   ·unfold cutP
    split
    ·rfl
    ·simp [Addr.add]
   ·rw [← hfl,List.getElem?_append_left (by have:=(List.getElem?_eq_some_iff.1 hu).1; exact this)]
    exact hu
theorem planCheck1_spec (bt:Nat) (c d:Ct):Ans Tryz.prog (.func (.func 157) #[] #[.pointer (some ⟨bt,0,none⟩)]) [.agg (encC d).toArray] [sng bt (.cells #[int c.f,int c.t,int c.s,int c.e,int c.r,int c.g,int c.l] 57 (0,0))] (fun r=>r = .bool (ovl c d)):=by
 refine spec_in (cap:=[.pointer (some ⟨bt,0,none⟩)]) Tryz.func157 rfl rfl Tryz.ntmps157 rfl envZ (fun N β=>?_)
 have hb:RdN (sng bt (.cells #[int c.f,int c.t,int c.s,int c.e,int c.r,int c.g,int c.l] 57 (0,0))) bt 0 [int c.f,int c.t,int c.s,int c.e,int c.r,int c.g,int c.l]:=fun j u hu=>by rw [rdc_sng,Nat.zero_add]; simpa using hu
 refine AD ?_;refine AA ?_;refine CI ?_; rintro _ _ ⟨b,rfl,rfl⟩;refine AC ?_;refine AE ?_;refine AD ?_;refine AA ?_;refine AT ?_;refine AT ?_;refine A4 (overlap_spec c d) rfl rfl rdZ rfl rfl ?_;rintro _ rfl;refine AC ?_;refine AE ?_;exact AI (res1 rfl rfl) rsubZ selZ ⟨rfl,rfl⟩
theorem quoE_at {qs:List Int} {i:Nat} {q:Int} (h:qs[i]? = some q):quoE qs i = if q < 0 ∨ 1073741824 < q then 2 else 0:=by unfold quoE; rw [h]
theorem ctE_at {n:Nat} {cs:List Ct} {i:Nat} {c:Ct} (h:cs[i]? = some c):ctE n cs i = if chkCt c ≠ 0 then chkCt c else if (n:Int) ≤ c.f ∨ (n:Int) ≤ c.t then 2 else if (cs.take i).any (ovl c) then 14 else 0:=by unfold ctE; rw [h]
abbrev CtAt (ρ:PH) (v:Value) (l:List Ct):Prop:=SlE encC 7 ρ v l
theorem ctRow {ρ:PH} {p:Option Addr} {l:List Ct} (h:RowsE encC 7 ρ p l) {i:Nat} {c:Ct} (hx:l[i]? = some c) :
  ∃ b o,p = some ⟨b,o,none⟩ ∧ RdN ρ b (o + i * 7) [int c.f,int c.t,int c.s,int c.e,int c.r,int c.g,int c.l]:=h i c hx
set_option maxHeartbeats 16000000 in
theorem planCheck_spec (ρ τ:PH) (pq pc:Option Addr) (kq kc:Nat) (qs:List Int) (cs:List Ct) (hq:IntsAt ρ (.slice pq qs.length kq) qs) (hc:CtAt τ (.slice pc cs.length kc) cs) (hcap:cs.length ≤ kc) (lq:qs.length ≤ 9223372036854775807) (lc:cs.length ≤ 9223372036854775807) :
  Ans Tryz.prog (fv 145) [.agg #[.slice pq qs.length kq,.slice pc cs.length kc]] [ρ,τ] (fun r=>r = int (chkPl qs cs)):=by
 have hc2:=hc
 obtain ⟨_,_,e,hrq⟩:=hq.val Eng.encI_len
 simp only [Value.slice.injEq] at e
 obtain ⟨rfl,_,rfl⟩:=e
 obtain ⟨_,_,e,hrc⟩:=hc.val encC_len
 simp only [Value.slice.injEq] at e
 obtain ⟨rfl,_,rfl⟩:=e
 refine spec_in (cap:=[]) Tryz.func145 rfl rfl Tryz.ntmps145 rfl envZ (fun N β=>?_)
 refine AD ?_;refine AA ?_;refine BI (BK rfl) rfl rfl rfl ?_;rintro _ _ ⟨b1,rfl,rfl⟩;refine AS (ρ:=sng b1 _) takeZ ?_
 have c10:rdc (sng b1 (.cells #[.slice pq qs.length kq,.slice pc cs.length kc] 25 (0,0))) b1 0 = some (.slice pq qs.length kq):=by rw [rdc_sng]; rfl
 have c11:rdc (sng b1 (.cells #[.slice pq qs.length kq,.slice pc cs.length kc] 25 (0,0))) b1 1 = some (.slice pc cs.length kc):=by rw [rdc_sng]; rfl
 unfold chkPl
 by_cases hl1:qs.length < 1
 ·rw [if_pos (.inl hl1)]
  refine AC ?_;refine AE ?_;refine AD ?_;refine AA ?_;refine AG ?_;refine AF ?_;refine AV ?_;refine AC ?_;refine AE ?_;refine AD ?_;refine AD ?_;refine AA ?_;refine AB ?_;refine BD ?_;refine AB ?_;refine AH rfl rfl rfl ?_;refine AH rfl rfl rfl ?_;refine AQ ?_;refine AB ?_;refine AH rfl rfl rfl ?_;refine AH rfl rfl rfl ?_;refine AH rfl rfl rfl ?_;refine AH rfl rfl rfl ?_;refine AQ ?_;refine AE ?_;refine AO rfl ?_;refine AD ?_;refine AA ?_;refine AC ?_;refine AE ?_;exact AI (res1 rfl rfl) rsubZ selZ ⟨rfl,rfl⟩
 by_cases hl2:16 < qs.length
 ·rw [if_pos (.inr (.inl hl2))]
  refine AC ?_;refine AE ?_;refine AD ?_;refine AA ?_;refine AG ?_;refine AF ?_;refine AV ?_;refine AC ?_;refine AE ?_;refine AD ?_;refine AD ?_;refine AA ?_;refine AB ?_;refine AY ?_;refine AB ?_;refine AB ?_;refine CP ?_;refine AL ?_;refine AB ?_;refine AH rfl rfl rfl ?_;refine AH rfl rfl rfl ?_;refine AH rfl rfl rfl ?_;refine AH rfl rfl rfl ?_;refine AQ ?_;refine AE ?_;refine AO rfl ?_;refine AD ?_;refine AA ?_;refine AC ?_;refine AE ?_;exact AI (res1 rfl rfl) rsubZ selZ ⟨rfl,rfl⟩
 by_cases hl3:64 < cs.length
 ·rw [if_pos (.inr (.inr hl3))]
  refine AC ?_;refine AE ?_;refine AD ?_;refine AA ?_;refine AG ?_;refine AF ?_;refine AV ?_;refine AC ?_;refine AE ?_;refine AD ?_;refine AD ?_;refine AA ?_;refine AB ?_;refine AY ?_;refine AB ?_;refine AB ?_;refine B4 ?_;refine AL ?_;refine AB ?_;refine AG ?_;refine AF ?_;refine AV ?_;refine CP ?_;refine AL ?_;refine AE ?_;refine AO rfl ?_;refine AD ?_;refine AA ?_;refine AC ?_;refine AE ?_;exact AI (res1 rfl rfl) rsubZ selZ ⟨rfl,rfl⟩
 rw [if_neg (by omega)]
 refine AC ?_;refine AE ?_;refine AD ?_;refine AA ?_;refine AG ?_;refine AF ?_;refine AV ?_;refine AC ?_;refine AE ?_;refine AD ?_;refine AD ?_;refine AA ?_;refine AB ?_;refine AY ?_;refine AB ?_;refine AB ?_;refine B4 ?_;refine AL ?_;refine AB ?_;refine AG ?_;refine AF ?_;refine AV ?_;refine B4 ?_;refine AL ?_;refine AE ?_;refine AN rfl ?_;refine AK ?_;refine AD ?_;refine AD ?_;refine AA ?_;refine AG ?_;refine AF ?_;refine AV ?_;refine AB ?_;refine AE ?_;refine AP ?_
 refine BB [1,3,25,26] (0:Nat) (fun k=>k ≤ qs.length ∧ firstE (quoE qs) k = 0) (fun k=>[(27,int k)]) (fun _=>[]) (fun k=>qs.length - k) pickZ ⟨by omega,rfl⟩ covZ selZ ?_
 rintro k ⟨hk,hI⟩
 by_cases hlt:k < qs.length
 ·have hx:=List.getElem?_eq_getElem hlt
  obtain ⟨b2,o2,rfl,g1⟩:=hrq.int hx
  have hE:=quoE_at hx
  generalize qs[k] = x at g1 hE
  by_cases hbad:x < 0 ∨ 1073741824 < x
  ·rw [if_pos hbad] at hE
   have hh:=firstE_hit hI (by rw [hE]; decide) _ hlt
   rw [hE] at hh
   rw [if_pos (by rw [hh]; decide),hh]
   by_cases hneg:x < 0
   ·refine AD ?_
    refine AA ?_;refine BD ?_;refine AE ?_;refine AD ?_;refine AO rfl ?_;refine AK ?_;refine AD ?_;refine AP ?_;refine AD ?_;refine AA ?_;refine BQ ?_;refine AF ?_;refine AC ?_;refine AE ?_;refine AD ?_;refine AA ?_;refine AB ?_;refine BD ?_;refine AB ?_;refine AH rfl rfl rfl ?_;refine AH rfl rfl rfl ?_;refine AQ ?_;refine AE ?_;refine AO rfl ?_;refine AD ?_;refine AA ?_;refine AC ?_;refine AE ?_;exact AI (res1 rfl rfl) rsubZ selZ ⟨rfl,rfl⟩
   ·refine AD ?_
    refine AA ?_;refine BD ?_;refine AE ?_;refine AD ?_;refine AO rfl ?_;refine AK ?_;refine AD ?_;refine AP ?_;refine AD ?_;refine AA ?_;refine BQ ?_;refine AF ?_;refine AC ?_;refine AE ?_;refine AD ?_;refine AA ?_;refine AB ?_;refine AY ?_;refine AB ?_;refine AB ?_;refine CP ?_;refine AL ?_;refine AE ?_;refine AO rfl ?_;refine AD ?_;refine AA ?_;refine AC ?_;refine AE ?_;exact AI (res1 rfl rfl) rsubZ selZ ⟨rfl,rfl⟩
  ·rw [if_neg hbad] at hE
   refine AD ?_;refine AA ?_;refine BD ?_;refine AE ?_;refine AD ?_;refine AO rfl ?_;refine AK ?_;refine AD ?_;refine AP ?_;refine AD ?_;refine AA ?_;refine BQ ?_;refine AF ?_;refine AC ?_;refine AE ?_;refine AD ?_;refine AA ?_;refine AB ?_;refine AY ?_;refine AB ?_;refine AB ?_;refine B4 ?_;refine AL ?_;refine AE ?_;refine AN rfl ?_;refine AK ?_;refine AZ ?_;refine AA ?_;refine A7 ?_;refine AB ?_;refine AE ?_
   exact AU (k + 1) ⟨by omega,firstE_ok hI hE⟩ (by omega) covZ selZ
 have hke:k = qs.length:=by omega
 subst hke
 rw [if_neg (by rw [hI]; simp)]
 refine AD ?_;refine AA ?_;refine AY ?_;refine AE ?_;refine AD ?_;refine AN rfl ?_;refine A5 rfl ?_;refine AD ?_;refine AD ?_;refine AA ?_;refine AG ?_;refine AF ?_;refine AV ?_;refine AB ?_;refine AE ?_;refine AP ?_
 refine BB [1,3,39,40] (0:Nat) (fun k=>k ≤ cs.length ∧ firstE (ctE qs.length cs) k = 0) (fun k=>[(41,int k)]) (fun _=>[]) (fun k=>cs.length - k) pickZ ⟨by omega,rfl⟩ covZ selZ ?_
 clear hI hk hlt;rintro k ⟨hk,hI⟩
 by_cases hlt:k < cs.length
 ·have hx:=List.getElem?_eq_getElem hlt
  obtain ⟨b2,o2,rfl,hrd⟩:=ctRow hrc hx
  have hE:=ctE_at (n:=qs.length) hx
  generalize cs[k] = c at hrd hE
  refine AD ?_;refine AA ?_;refine BD ?_;refine AE ?_;refine AD ?_;refine AO rfl ?_;refine AK ?_;refine AD ?_;refine AP ?_;refine AD ?_;refine AA ?_;refine AB ?_;refine A3 ?_;refine AT ?_;refine A2 ?_; rintro _ _ ⟨b,rfl,rfl⟩;refine AC ?_;refine AX ?_; rintro _ _ ⟨rfl,rfl⟩;refine AE ?_;refine AD ?_;refine AD ?_;refine AA ?_;refine AT ?_
  revert b; intro b7
  skip
  refine A4 (ctCheck_spec c) rfl rfl rdZ rfl rfl ?_;rintro _ rfl
  by_cases h0:chkCt c = 0
  rotate_left
  ·rw [if_pos h0] at hE
   have hh:=firstE_hit hI (by rw [hE]; exact h0) _ hlt
   rw [hh,hE]
   generalize chkCt c = y at h0
   refine AC ?_;refine AE ?_;refine AD ?_;refine AA ?_;refine AB ?_;refine CG ?_;refine AE ?_;refine AO rfl ?_;refine AD ?_;refine AA ?_;refine AB ?_;refine AC ?_;refine AE ?_;exact AI (res1 rfl rfl) rsubZ selZ ⟨rfl,rfl⟩
  rw [if_neg (by omega)] at hE
  by_cases hfar:(qs.length:Int) ≤ c.f ∨ (qs.length:Int) ≤ c.t
  ·rw [if_pos hfar] at hE
   have hh:=firstE_hit hI (by rw [hE]; decide) _ hlt
   rw [hh,hE]
   by_cases hf1:(qs.length:Int) ≤ c.f
   ·refine AC ?_
    refine AE ?_;refine AD ?_;refine AA ?_;refine AB ?_;refine BE ?_;refine AE ?_;refine AN rfl ?_;refine AK ?_;refine AD ?_;refine AD ?_;refine AA ?_;refine AG ?_;refine AF ?_;refine AB ?_;refine CK ?_;refine AB ?_;refine AH rfl rfl rfl ?_;refine AH rfl rfl rfl ?_;refine AH rfl rfl rfl ?_;refine AH rfl rfl rfl ?_;refine AQ ?_;refine AE ?_;refine AO rfl ?_;refine AD ?_;refine AA ?_;refine AC ?_;refine AE ?_;exact AI (res1 rfl rfl) rsubZ selZ ⟨rfl,rfl⟩
   ·refine AC ?_
    refine AE ?_;refine AD ?_;refine AA ?_;refine AB ?_;refine BE ?_;refine AE ?_;refine AN rfl ?_;refine AK ?_;refine AD ?_;refine AD ?_;refine AA ?_;refine AG ?_;refine AF ?_;refine AB ?_;refine BO ?_;refine AB ?_;refine AG ?_;refine AF ?_;refine AB ?_;refine CK ?_;refine AL ?_;refine AE ?_;refine AO rfl ?_;refine AD ?_;refine AA ?_;refine AC ?_;refine AE ?_;exact AI (res1 rfl rfl) rsubZ selZ ⟨rfl,rfl⟩
  rw [if_neg hfar] at hE;refine AC ?_;refine AE ?_;refine AD ?_;refine AA ?_;refine AB ?_;refine BE ?_;refine AE ?_;refine AN rfl ?_;refine AK ?_;refine AD ?_;refine AD ?_;refine AA ?_;refine AG ?_;refine AF ?_;refine AB ?_;refine BO ?_;refine AB ?_;refine AG ?_;refine AF ?_;refine AB ?_;refine BO ?_;refine AL ?_;refine AE ?_;refine AN rfl ?_;refine AK ?_;refine AD ?_;refine AA ?_;refine AG ?_;refine AF ?_;refine AB ?_;refine GA ?_;refine CF ?_
  refine A4 (contC_spec τ [sng b7 (.cells #[int c.f,int c.t,int c.s,int c.e,int c.r,int c.g,int c.l] 57 (0,0))] _ _ (cs.take k) (ovl c) (SlE.pre hc2 encC_len hk) (by rw [List.length_take]; omega) (fun i x _=>planCheck1_spec b7 c x)) rfl rfl rdZ rfl rfl ?_
  rintro _ rfl
  cases ho:(cs.take k).any (ovl c) with
  | true =>
   rw [ho,if_pos rfl] at hE
   have hh:=firstE_hit hI (by rw [hE]; decide) _ hlt
   rw [hh,hE];refine AE ?_;refine AO rfl ?_;refine AD ?_;refine AA ?_;refine AC ?_;refine AE ?_;exact AI (res1 rfl rfl) rsubZ selZ ⟨rfl,rfl⟩
  | false =>
   rw [ho,if_neg (by simp)] at hE
   refine AE ?_;refine AN rfl ?_;refine AK ?_;refine AZ ?_;refine AA ?_;refine A7 ?_;refine AB ?_;refine AE ?_
   exact AU (k + 1) ⟨by omega,firstE_ok hI hE⟩ (by omega) covZ selZ
 have hke:k = cs.length:=by omega
 subst hke;rw [hI];refine AD ?_;refine AA ?_;refine AY ?_;refine AE ?_;refine AD ?_;refine AN rfl ?_;refine A5 rfl ?_;refine AD ?_;refine AA ?_;refine AC ?_;refine AE ?_;exact AI (res1 rfl rfl) rsubZ selZ ⟨rfl,rfl⟩
set_option maxHeartbeats 16000000 in
theorem refPlanCheck_spec (ρ τ:PH) (pq pc:Option Addr) (kq kc:Nat) (qs:List Int) (cs:List Ct) (hq:IntsAt ρ (.slice pq qs.length kq) qs) (hc:CtAt τ (.slice pc cs.length kc) cs) (lq:qs.length ≤ 9223372036854775807) (lc:cs.length ≤ 9223372036854775807) :
  Ans Tryz.prog (fv 89) [.agg #[.slice pq qs.length kq,.slice pc cs.length kc]] [ρ,τ] (fun r=>r = int (chkPl qs cs)):=by
 obtain ⟨_,_,e,hrq⟩:=hq.val Eng.encI_len
 simp only [Value.slice.injEq] at e
 obtain ⟨rfl,_,rfl⟩:=e
 obtain ⟨_,_,e,hrc⟩:=hc.val encC_len
 simp only [Value.slice.injEq] at e
 obtain ⟨rfl,_,rfl⟩:=e
 refine spec_in (cap:=[]) Tryz.func89 rfl rfl Tryz.ntmps89 rfl envZ (fun N β=>?_)
 refine AD ?_;refine AA ?_;refine BI (BK rfl) rfl rfl rfl ?_;rintro _ _ ⟨b1,rfl,rfl⟩;refine AS (ρ:=sng b1 _) takeZ ?_
 have c10:rdc (sng b1 (.cells #[.slice pq qs.length kq,.slice pc cs.length kc] 25 (0,0))) b1 0 = some (.slice pq qs.length kq):=by rw [rdc_sng]; rfl
 have c11:rdc (sng b1 (.cells #[.slice pq qs.length kq,.slice pc cs.length kc] 25 (0,0))) b1 1 = some (.slice pc cs.length kc):=by rw [rdc_sng]; rfl
 unfold chkPl
 by_cases hl1:qs.length < 1
 ·rw [if_pos (.inl hl1)]
  refine AC ?_;refine AE ?_;refine AD ?_;refine AD ?_;refine AA ?_;refine AG ?_;refine AF ?_;refine AV ?_;refine BD ?_;refine AB ?_;refine AH rfl rfl rfl ?_;refine AH rfl rfl rfl ?_;refine AH rfl rfl rfl ?_;refine AH rfl rfl rfl ?_;refine AQ ?_;refine AB ?_;refine AH rfl rfl rfl ?_;refine AH rfl rfl rfl ?_;refine AH rfl rfl rfl ?_;refine AH rfl rfl rfl ?_;refine AQ ?_;refine AE ?_;refine AO rfl ?_;refine AD ?_;refine AA ?_;refine AC ?_;refine AE ?_;exact AI (res1 rfl rfl) rsubZ selZ ⟨rfl,rfl⟩
 by_cases hl2:16 < qs.length
 ·rw [if_pos (.inr (.inl hl2))]
  refine AC ?_;refine AE ?_;refine AD ?_;refine AD ?_;refine AA ?_;refine AG ?_;refine AF ?_;refine AV ?_;refine AY ?_;refine AB ?_;refine AG ?_;refine AF ?_;refine AV ?_;refine CP ?_;refine AL ?_;refine AB ?_;refine AH rfl rfl rfl ?_;refine AH rfl rfl rfl ?_;refine AH rfl rfl rfl ?_;refine AH rfl rfl rfl ?_;refine AQ ?_;refine AE ?_;refine AO rfl ?_;refine AD ?_;refine AA ?_;refine AC ?_;refine AE ?_;exact AI (res1 rfl rfl) rsubZ selZ ⟨rfl,rfl⟩
 by_cases hl3:64 < cs.length
 ·rw [if_pos (.inr (.inr hl3))]
  refine AC ?_;refine AE ?_;refine AD ?_;refine AD ?_;refine AA ?_;refine AG ?_;refine AF ?_;refine AV ?_;refine AY ?_;refine AB ?_;refine AG ?_;refine AF ?_;refine AV ?_;refine B4 ?_;refine AL ?_;refine AB ?_;refine AG ?_;refine AF ?_;refine AV ?_;refine CP ?_;refine AL ?_;refine AE ?_;refine AO rfl ?_;refine AD ?_;refine AA ?_;refine AC ?_;refine AE ?_;exact AI (res1 rfl rfl) rsubZ selZ ⟨rfl,rfl⟩
 rw [if_neg (by omega)]
 refine AC ?_;refine AE ?_;refine AD ?_;refine AD ?_;refine AA ?_;refine AG ?_;refine AF ?_;refine AV ?_;refine AY ?_;refine AB ?_;refine AG ?_;refine AF ?_;refine AV ?_;refine B4 ?_;refine AL ?_;refine AB ?_;refine AG ?_;refine AF ?_;refine AV ?_;refine B4 ?_;refine AL ?_;refine AE ?_;refine AN rfl ?_;refine AK ?_;refine AD ?_;refine AD ?_;refine AA ?_;refine AC ?_;refine AE ?_;refine AP ?_
 refine BB [1] (0:Nat) (fun k=>k ≤ qs.length ∧ firstE (quoE qs) k = 0) (fun k=>[(3,int k)]) (fun _=>[]) (fun k=>qs.length - k) pickZ ⟨by omega,rfl⟩ covZ selZ ?_
 rintro k ⟨hk,hI⟩
 by_cases hlt:k < qs.length
 ·have hx:=List.getElem?_eq_getElem hlt
  obtain ⟨b2,o2,rfl,g1⟩:=hrq.int hx
  have hE:=quoE_at hx
  generalize qs[k] = x at g1 hE
  by_cases hbad:x < 0 ∨ 1073741824 < x
  ·rw [if_pos hbad] at hE
   have hh:=firstE_hit hI (by rw [hE]; decide) _ hlt
   rw [hE] at hh
   rw [if_pos (by rw [hh]; decide),hh]
   by_cases hneg:x < 0
   ·refine AD ?_
    refine AD ?_;refine AA ?_;refine AB ?_;refine AG ?_;refine AF ?_;refine AV ?_;refine BD ?_;refine AE ?_;refine AO rfl ?_;refine AK ?_;refine AD ?_;refine AP ?_;refine AD ?_;refine AA ?_;refine AG ?_;refine AF ?_;refine AB ?_;refine BQ ?_;refine AF ?_;refine BD ?_;refine AB ?_;refine AH rfl rfl rfl ?_;refine AH rfl rfl rfl ?_;refine AH rfl rfl rfl ?_;refine AH rfl rfl rfl ?_;refine AH rfl rfl rfl ?_;refine AH rfl rfl rfl ?_;refine AQ ?_;refine AE ?_;refine AO rfl ?_;refine AD ?_;refine AA ?_;refine AC ?_;refine AE ?_;exact AI (res1 rfl rfl) rsubZ selZ ⟨rfl,rfl⟩
   ·refine AD ?_
    refine AD ?_;refine AA ?_;refine AB ?_;refine AG ?_;refine AF ?_;refine AV ?_;refine BD ?_;refine AE ?_;refine AO rfl ?_;refine AK ?_;refine AD ?_;refine AP ?_;refine AD ?_;refine AA ?_;refine AG ?_;refine AF ?_;refine AB ?_;refine BQ ?_;refine AF ?_;refine AY ?_;refine AB ?_;refine AG ?_;refine AF ?_;refine AB ?_;refine BQ ?_;refine AF ?_;refine CP ?_;refine AL ?_;refine AE ?_;refine AO rfl ?_;refine AD ?_;refine AA ?_;refine AC ?_;refine AE ?_;exact AI (res1 rfl rfl) rsubZ selZ ⟨rfl,rfl⟩
  ·rw [if_neg hbad] at hE
   refine AD ?_;refine AD ?_;refine AA ?_;refine AB ?_;refine AG ?_;refine AF ?_;refine AV ?_;refine BD ?_;refine AE ?_;refine AO rfl ?_;refine AK ?_;refine AD ?_;refine AP ?_;refine AD ?_;refine AA ?_;refine AG ?_;refine AF ?_;refine AB ?_;refine BQ ?_;refine AF ?_;refine AY ?_;refine AB ?_;refine AG ?_;refine AF ?_;refine AB ?_;refine BQ ?_;refine AF ?_;refine B4 ?_;refine AL ?_;refine AE ?_;refine AN rfl ?_;refine AK ?_;refine AZ ?_;refine AA ?_;refine AB ?_;refine A7 ?_;refine AC ?_;refine AE ?_
   exact AU (k + 1) ⟨by omega,firstE_ok hI hE⟩ (by omega) covZ selZ
 have hke:k = qs.length:=by omega
 subst hke
 rw [if_neg (by rw [hI]; simp)]
 refine AD ?_;refine AD ?_;refine AA ?_;refine AB ?_;refine AG ?_;refine AF ?_;refine AV ?_;refine AY ?_;refine AE ?_;refine AN rfl ?_;refine A5 rfl ?_;refine AD ?_;refine AD ?_;refine AA ?_;refine AC ?_;refine AE ?_;refine AP ?_
 refine BB [1] (0:Nat) (fun k=>k ≤ cs.length ∧ firstE (ctE qs.length cs) k = 0) (fun k=>[(4,int k)]) (fun _=>[]) (fun k=>cs.length - k) pickZ ⟨by omega,rfl⟩ covZ selZ ?_
 clear hI hk hlt;rintro k ⟨hk,hI⟩
 by_cases hlt:k < cs.length
 ·have hx:=List.getElem?_eq_getElem hlt
  obtain ⟨b2,o2,rfl,hrd⟩:=ctRow hrc hx
  have hE:=ctE_at (n:=qs.length) hx
  generalize cs[k] = c at hrd hE
  refine AD ?_;refine AD ?_;refine AA ?_;refine AB ?_;refine AG ?_;refine AF ?_;refine AV ?_;refine BD ?_;refine AE ?_;refine AO rfl ?_;refine AK ?_;refine AD ?_;refine AP ?_;refine AD ?_;refine AA ?_;refine AG ?_;refine AF ?_;refine AB ?_;refine A3 ?_;refine AT ?_;refine A2 ?_; rintro _ _ ⟨b,rfl,rfl⟩;refine AX ?_; rintro _ _ ⟨rfl,rfl⟩;refine AE ?_;refine AD ?_;refine AD ?_;refine AA ?_;refine AT ?_
  revert b; intro b7
  skip
  refine A4 (refCtCheck_spec c) rfl rfl rdZ rfl rfl ?_;rintro _ rfl
  by_cases h0:chkCt c = 0
  rotate_left
  ·rw [if_pos h0] at hE
   have hh:=firstE_hit hI (by rw [hE]; exact h0) _ hlt
   rw [hh,hE]
   generalize chkCt c = y at h0
   refine AC ?_;refine AE ?_;refine AD ?_;refine AA ?_;refine AB ?_;refine CG ?_;refine AE ?_;refine AO rfl ?_;refine AD ?_;refine AA ?_;refine AB ?_;refine AC ?_;refine AE ?_;exact AI (res1 rfl rfl) rsubZ selZ ⟨rfl,rfl⟩
  rw [if_neg (by omega)] at hE
  by_cases hfar:(qs.length:Int) ≤ c.f ∨ (qs.length:Int) ≤ c.t
  ·rw [if_pos hfar] at hE
   have hh:=firstE_hit hI (by rw [hE]; decide) _ hlt
   rw [hh,hE]
   by_cases hf1:(qs.length:Int) ≤ c.f
   ·refine AC ?_
    refine AE ?_;refine AD ?_;refine AA ?_;refine AB ?_;refine BE ?_;refine AE ?_;refine AN rfl ?_;refine AK ?_;refine AD ?_;refine AD ?_;refine AA ?_;refine AG ?_;refine AF ?_;refine AG ?_;refine AF ?_;refine AV ?_;refine CK ?_;refine AB ?_;refine AH rfl rfl rfl ?_;refine AH rfl rfl rfl ?_;refine AH rfl rfl rfl ?_;refine AH rfl rfl rfl ?_;refine AH rfl rfl rfl ?_;refine AH rfl rfl rfl ?_;refine AQ ?_;refine AE ?_;refine AO rfl ?_;refine AD ?_;refine AA ?_;refine AC ?_;refine AE ?_;exact AI (res1 rfl rfl) rsubZ selZ ⟨rfl,rfl⟩
   ·refine AC ?_
    refine AE ?_;refine AD ?_;refine AA ?_;refine AB ?_;refine BE ?_;refine AE ?_;refine AN rfl ?_;refine AK ?_;refine AD ?_;refine AD ?_;refine AA ?_;refine AG ?_;refine AF ?_;refine AG ?_;refine AF ?_;refine AV ?_;refine BO ?_;refine AB ?_;refine AG ?_;refine AF ?_;refine AG ?_;refine AF ?_;refine AV ?_;refine CK ?_;refine AL ?_;refine AE ?_;refine AO rfl ?_;refine AD ?_;refine AA ?_;refine AC ?_;refine AE ?_;exact AI (res1 rfl rfl) rsubZ selZ ⟨rfl,rfl⟩
  rw [if_neg hfar] at hE;refine AC ?_;refine AE ?_;refine AD ?_;refine AA ?_;refine AB ?_;refine BE ?_;refine AE ?_;refine AN rfl ?_;refine AK ?_;refine AD ?_;refine AD ?_;refine AA ?_;refine AG ?_;refine AF ?_;refine AG ?_;refine AF ?_;refine AV ?_;refine BO ?_;refine AB ?_;refine AG ?_;refine AF ?_;refine AG ?_;refine AF ?_;refine AV ?_;refine BO ?_;refine AL ?_;refine AE ?_;refine AN rfl ?_;refine AK ?_;refine AD ?_;refine AA ?_;refine AC ?_;refine AE ?_;refine AP ?_
  refine BB [1,4,5] (0:Nat) (fun j=>j ≤ k ∧ (cs.take j).any (ovl c) = false) (fun j=>[(7,int j)]) (fun _=>[sng b7 (.cells #[int c.f,int c.t,int c.s,int c.e,int c.r,int c.g,int c.l] 57 (0,0))]) (fun j=>k - j) pickZ ⟨by omega,by simp⟩ covZ selZ ?_
  rintro j ⟨hj,hJ⟩
  by_cases hjk:j < k
  ·have hjl:j < cs.length:=by omega
   have hx2:=List.getElem?_eq_getElem hjl
   obtain ⟨_,_,e,hrd2⟩:=ctRow hrc hx2
   simp only [Option.some.injEq,Addr.mk.injEq,and_true] at e
   obtain ⟨rfl,rfl⟩:=e
   have hnext:(cs.take (j + 1)).any (ovl c) = ((cs.take j).any (ovl c) || ovl c cs[j]):=by rw [List.take_succ_eq_append_getElem hjl,List.any_append]; simp
   rw [hJ,Bool.false_or,ovl_comm] at hnext
   generalize hd:cs[j] = d at hrd2 hnext
   have ho:=refOverlap_spec d c
   refine AD ?_;refine AD ?_;refine AA ?_;refine AB ?_;refine AB ?_;refine BD ?_;refine AE ?_;refine AO rfl ?_;refine AK ?_;refine AD ?_;refine AP ?_;refine AD ?_
   refine A6 (.q 0 (.q 1 (.q 2 (.q 3 (.q 4 (.q 5 (.l 6 .e .nil))))))) [sng b7 _] rfl (by kernel_rfl) selZ ?_
   refine A0 ?_;refine AR ?_;refine AJ ?_;refine BC ?_;refine BL ?_;refine BL ?_;refine CL (CB rfl ho rfl rfl rdZ rfl rfl ?_);rintro _ rfl
   cases hov:ovl d c with
   | true =>
    have hany:(cs.take k).any (ovl c) = true:=by
     rw [List.any_eq_true]
     refine ⟨d,?_,by rw [ovl_comm]; exact hov⟩
     rw [← hd]
     exact List.mem_take_iff_getElem.2 ⟨j,by omega,rfl⟩
    rw [hany,if_pos rfl] at hE
    have hh:=firstE_hit hI (by rw [hE]; decide) _ hlt
    rw [hh,hE];refine A8 ?_;refine AO rfl ?_;refine AD ?_;refine AA ?_;refine AC ?_;refine AE ?_;exact AI (res1 rfl rfl) rsubZ selZ ⟨rfl,rfl⟩
   | false =>
    rw [hov] at hnext;refine A8 ?_;refine AN rfl ?_;refine AK ?_;refine AZ ?_;refine AA ?_;refine AB ?_;refine A7 ?_;refine AC ?_;refine AE ?_
    exact AU (j + 1) ⟨by omega,hnext⟩ (by omega) covZ selZ
  ·have hjk2:j = k:=by omega
   subst hjk2
   rw [hJ,if_neg (by simp)] at hE
   refine AD ?_;refine AD ?_;refine AA ?_;refine AB ?_;refine AB ?_;refine AY ?_;refine AE ?_;refine AN rfl ?_;refine A5 rfl ?_;refine AZ ?_;refine AA ?_;refine AB ?_;refine A7 ?_;refine AC ?_;refine AE ?_
   exact AU (j + 1) ⟨by omega,firstE_ok hI hE⟩ (by omega) covZ selZ
 have hke:k = cs.length:=by omega
 subst hke;rw [hI];refine AD ?_;refine AD ?_;refine AA ?_;refine AB ?_;refine AG ?_;refine AF ?_;refine AV ?_;refine AY ?_;refine AE ?_;refine AN rfl ?_;refine A5 rfl ?_;refine AD ?_;refine AA ?_;refine AC ?_;refine AE ?_;exact AI (res1 rfl rfl) rsubZ selZ ⟨rfl,rfl⟩
end Go.Proofs.YtphehihohghfoaaGreat
/- Step functions: what makes levels a function, its values, its sums. No program in sight. No conditions. -/
namespace Go.Step
structure Lv where
  a:Int
  v:Int
  deriving DecidableEq,Inhabited
def badL (l:Lv):Prop:=l.a < 0 ∨ 1099511627776 < l.a ∨ l.v < -1125899906842624 ∨ 1125899906842624 < l.v
instance (l:Lv):Decidable (badL l):=by unfold badL; infer_instance
def chkL (pa pv:Int):List Lv → Int
  | []=>0
  | l :: f=>if badL l then 2 else if l.a ≤ pa ∨ l.v = pv then 9 else chkL l.a l.v f
def chkS (f:List Lv):Int:=if 1000 < f.length then 4 else chkL (-1) 0 f
def Asc (pa:Int):List Lv → Prop
  | []=>True
  | l :: f=>pa < l.a ∧ l.a ≤ 1099511627776 ∧ (-1125899906842624 ≤ l.v ∧ l.v ≤ 1125899906842624) ∧ Asc l.a f
theorem chkL_asc:∀ (f:List Lv) (pa pv:Int),chkL pa pv f = 0 → Asc pa f
  | [],_,_,_=>trivial
  | l :: f,pa,pv,h=>by
    simp only [chkL] at h
    split at h
    · simp at h
    · rename_i h1
      split at h
      · simp at h
      · rename_i h2
        unfold badL at h1
        exact ⟨by omega,by omega,⟨by omega,by omega⟩,chkL_asc f l.a l.v h⟩
theorem chkS_ok {f:List Lv} (h:chkS f = 0):f.length ≤ 1000 ∧ Asc (-1) f:=by
  unfold chkS at h
  split at h
  · simp at h
  · exact ⟨by omega,chkL_asc f _ _ h⟩
theorem Asc.mono:∀ {f:List Lv} {p q:Int},Asc p f → q ≤ p → Asc q f
  | [],_,_,_,_=>trivial
  | _ :: _,_,_,h,hq=>⟨by have:=h.1; omega,h.2.1,h.2.2.1,h.2.2.2⟩
theorem Asc.gt:∀ {f:List Lv} {p:Int},Asc p f → ∀ l ∈ f,p < l.a ∧ l.a ≤ 1099511627776 ∧ -1125899906842624 ≤ l.v ∧ l.v ≤ 1125899906842624
  | [],_,_,l,hl=>by simp at hl
  | m :: f,p,h,l,hl=>by
    simp at hl
    rcases hl with rfl | hl
    · exact ⟨h.1,h.2.1,h.2.2.1⟩
    · have h9:=h.2.2.2.gt l hl
      have:=h.1
      exact ⟨by omega,h9.2⟩
def vat (cur:Int):List Lv → Int → Int
  | [],_=>cur
  | l :: f,t=>if l.a ≤ t then vat l.v f t else cur
def val (f:List Lv) (t:Int):Int:=vat 0 f t
theorem vat_late:∀ (f:List Lv) (cur t:Int),(∀ l,f.head? = some l → t < l.a) → vat cur f t = cur
  | [],_,_,_=>rfl
  | l :: f,cur,t,h=>by
    simp only [vat]
    rw [if_neg (by have:=h l rfl; omega)]
theorem vat_mem:∀ (f:List Lv) (cur t:Int),vat cur f t = cur ∨ ∃ l ∈ f,vat cur f t = l.v
  | [],_,_=>.inl rfl
  | l :: f,cur,t=>by
    simp only [vat]
    split
    · rcases vat_mem f l.v t with h | ⟨m,hm,h⟩
      · exact .inr ⟨l,by simp,h⟩
      · exact .inr ⟨m,by simp [hm],h⟩
    · exact .inl rfl
end Go.Step
namespace Go.Step
end Go.Step
namespace Go.Step
end Go.Step
