/- Texts of this proof, one after the other; no conditions. -/
import Derived.Test.YtjehnjhkcmobcaaGreatProg
import Derived.Test.YtjehnjhkcmobcaaGreatWB2
import Derived.Test.YtjehnjhkcmobcaaGreatWB1
set_option linter.all false
/- Each step of a walk as one theorem whose side goals are filled by themselves. No conditions. Written by mkz.py. -/
namespace Go.Eng
variable {C:Cx} {D:List Deferred} {R H Hf:List PH} {L:Env} {K:List It} {ps ls:List Nat}
variable {all:Array Oper} {o:Oper} {d i:Nat} {v:Value} {done:List Nat}
structure GWz (C:Cx) (L:Env) (all:Array Oper) (o:Oper) (d:Nat):Prop where
  a:wantE all L o=some true
  b:o.dst=some d
  c:Nat.blt d C.M=true
theorem rsubZ {R0 R:List PH} (h:∀ ρ∈R0,ρ∈R:=by (repeat (first|exact rs_nil|(refine rs_cons ?_ ?_; (focus ((repeat (first|exact .here|apply Mem.there|apply Take.there)); first|done|fail)))|exact fun ρ hρ=>hρ|(intro ρ hρ; repeat (first|exact hρ|refine List.mem_cons_of_mem _ ?_)))); first|done|fail):∀ ρ∈R0,ρ∈R:=h
theorem envZ {k:Nat} {vs cap:List Value} {L:Env} (h:EnvA k vs cap L:=by (repeat (first|exact EnvA.nil EnvI.nil|apply EnvA.cons|apply EnvA.nil|exact EnvI.nil|apply EnvI.cons)); first|done|fail):EnvA k vs cap L:=h
theorem takesZ {H T H':List PH} (h:Takes H T H':=by (repeat (first|exact Takes.nil|(apply Takes.cons; exact (by (repeat (first|exact .here|apply Take.there)); first|done|fail)))); first|done|fail):Takes H T H':=h
theorem putiZ {ps:List Nat} {vs:List Value} {L L':Env} (h:PutI ps vs L L':=by (repeat (first|exact PutI.nil|apply PutI.cons)); first|done|fail):PutI ps vs L L':=h
theorem oneZ {vs:List Value} {p:Value→Prop} (h:∀ v∈vs,p v:=by (repeat (first|exact (fun v hv=>absurd hv List.not_mem_nil)|(refine List.forall_mem_cons.2 ⟨?_,?_⟩; (focus (first|exact rfl|assumption))))); first|done|fail):∀ v∈vs,p v:=h
theorem selZ {H H':List PH} (h:Sel H H':=by (repeat (first|exact Sel.nil|(apply Sel.cons; (focus ((repeat (first|exact .here|apply Mem.there|apply Take.there)); first|done|fail))))); first|done|fail):Sel H H':=h
theorem covZ {L L':Env} (h:Cover L L':=by (repeat (first|exact trivial|refine And.intro rfl ?_)); first|done|fail):Cover L L':=h
theorem pickZ {L L':Env} {ks:List Nat} (h:Pick L ks L':=by (repeat (first|exact Pick.nil|apply Pick.cons rfl)); first|done|fail):Pick L ks L':=h
theorem rdZ {R1 R H:List PH} (h:RdOK R1 R H:=by (repeat (first|exact RdOK.nil|(refine RdOK.consR ?_ ?_; (focus ((repeat (first|exact .here|apply Mem.there|apply Take.there)); first|done|fail)))|(refine RdOK.consH ?_ ?_; (focus ((repeat (first|exact .here|apply Mem.there|apply Take.there)); first|done|fail)))|exact (fun τ hτ=>.inl (by simp [hτ])))); first|done|fail):RdOK R1 R H:=h
theorem memZ {ρ:PH} {H:List PH} (h:Mem ρ H:=by (repeat (first|exact .here|apply Mem.there)); first|done|fail):Mem ρ H:=h
theorem takeZ {ρ:PH} {H H':List PH} (h:Take ρ H H':=by (repeat (first|exact .here|apply Take.there)); first|done|fail):Take ρ H H':=h
theorem AB {rest:List Oper} (h:JK C D R H ((d,v)::L) (.ops all rest::K)) (hq:Quiet C R H L o v:=by (apply FA; exact rfl)) (g:GWz C L all o d:=by exact ⟨rfl,rfl,rfl⟩):JK C D R H L (.ops all (o::rest)::K):=CW hq g.a g.b g.c h
theorem AI {rest:Pl} (h:DJ C D R Hf H ((d,v)::L) all (i::done) ps ls rest K) (ho:all[i]?=some o:=by exact rfl) (hq:Quiet C R H L o v:=by (apply FA; exact rfl)) (g:GWz C L all o d:=by exact ⟨rfl,rfl,rfl⟩) (hin:(ps.all (done.contains ·))=true:=by exact rfl):DJ C D R Hf H L all done ps ls (.q i rest) K:=C1 ho hq g.a g.b g.c hin h
theorem DO {rest:Pl} (h:DJ C D R Hf H ((d,v)::L) all (i::done) (i::ps) ls rest K) (ho:all[i]?=some o:=by exact rfl) (hq:Quiet C R Hf L o v:=by (apply FA; exact rfl)) (g:GWz C L all o d:=by exact ⟨rfl,rfl,rfl⟩):DJ C D R Hf H L all done ps ls (.p i rest) K:=GO ho hq g.a g.b g.c h
theorem AD {rest:List Oper} (h:JK C D R H ((d,v)::L) (.ops all rest::K)) (hq:Quiet C R H L o v:=by (apply E0; exact rfl)) (g:GWz C L all o d:=by exact ⟨rfl,rfl,rfl⟩):JK C D R H L (.ops all (o::rest)::K):=CW hq g.a g.b g.c h
theorem B4 {rest:Pl} (h:DJ C D R Hf H ((d,v)::L) all (i::done) ps ls rest K) (ho:all[i]?=some o:=by exact rfl) (hq:Quiet C R H L o v:=by (apply E0; exact rfl)) (g:GWz C L all o d:=by exact ⟨rfl,rfl,rfl⟩) (hin:(ps.all (done.contains ·))=true:=by exact rfl):DJ C D R Hf H L all done ps ls (.q i rest) K:=C1 ho hq g.a g.b g.c hin h
theorem DE {rest:Pl} (h:DJ C D R Hf H ((d,v)::L) all (i::done) ps (i::ls) rest K) (ho:all[i]?=some o:=by exact rfl) (hq:Quiet C R H L o v:=by (apply E0; exact rfl)) (g:GWz C L all o d:=by exact ⟨rfl,rfl,rfl⟩) (hf:Sel H Hf:=by (repeat (first|exact Sel.nil|(apply Sel.cons; (focus ((repeat (first|exact .here|apply Mem.there|apply Take.there)); first|done|fail))))); first|done|fail):DJ C D R Hf H L all done ps ls (.l i .b rest) K:=CF (a_bq ho hq g.a g.b g.c hf h)
theorem AP {rest:List Oper} (h:JK C D R H ((d,v)::L) (.ops all rest::K)) (hq:Quiet C R H L o v:=by (apply EO; exact rfl; exact rfl)) (g:GWz C L all o d:=by exact ⟨rfl,rfl,rfl⟩):JK C D R H L (.ops all (o::rest)::K):=CW hq g.a g.b g.c h
theorem DQ {rest:Pl} (h:DJ C D R Hf H ((d,v)::L) all (i::done) ps ls rest K) (ho:all[i]?=some o:=by exact rfl) (hq:Quiet C R H L o v:=by (apply EO; exact rfl; exact rfl)) (g:GWz C L all o d:=by exact ⟨rfl,rfl,rfl⟩) (hin:(ps.all (done.contains ·))=true:=by exact rfl):DJ C D R Hf H L all done ps ls (.q i rest) K:=C1 ho hq g.a g.b g.c hin h
theorem EU {rest:Pl} (h:DJ C D R Hf H ((d,v)::L) all (i::done) (i::ps) ls rest K) (ho:all[i]?=some o:=by exact rfl) (hq:Quiet C R Hf L o v:=by (apply EO; exact rfl; exact rfl)) (g:GWz C L all o d:=by exact ⟨rfl,rfl,rfl⟩):DJ C D R Hf H L all done ps ls (.p i rest) K:=GO ho hq g.a g.b g.c h
theorem AF {rest:List Oper} (h:JK C D R H ((d,v)::L) (.ops all rest::K)) (hq:Quiet C R H L o v:=by (apply F4; exact rfl; exact rfl; (first|exact cell_own (by (repeat (first|exact .here|apply Mem.there)); first|done|fail) rfl|exact cellR (by assumption) (by (repeat (first|exact .here|apply Mem.there)); first|done|fail)|exact cellH (by assumption) (by (repeat (first|exact .here|apply Mem.there)); first|done|fail)|exact cell_ints (by (repeat (first|exact .here|apply Mem.there)); first|done|fail) (by omega)|exact cell_bools (by assumption) (by (repeat (first|exact .here|apply Mem.there)); first|done|fail)|exact cell_intsR (by (repeat (first|exact .here|apply Mem.there)); first|done|fail) (by omega)|exact cell_boolsR (by assumption) (by (repeat (first|exact .here|apply Mem.there)); first|done|fail)))) (g:GWz C L all o d:=by exact ⟨rfl,rfl,rfl⟩):JK C D R H L (.ops all (o::rest)::K):=CW hq g.a g.b g.c h
theorem AQ {rest:Pl} (h:DJ C D R Hf H ((d,v)::L) all (i::done) ps ls rest K) (ho:all[i]?=some o:=by exact rfl) (hq:Quiet C R H L o v:=by (apply F4; exact rfl; exact rfl; (first|exact cell_own (by (repeat (first|exact .here|apply Mem.there)); first|done|fail) rfl|exact cellR (by assumption) (by (repeat (first|exact .here|apply Mem.there)); first|done|fail)|exact cellH (by assumption) (by (repeat (first|exact .here|apply Mem.there)); first|done|fail)|exact cell_ints (by (repeat (first|exact .here|apply Mem.there)); first|done|fail) (by omega)|exact cell_bools (by assumption) (by (repeat (first|exact .here|apply Mem.there)); first|done|fail)|exact cell_intsR (by (repeat (first|exact .here|apply Mem.there)); first|done|fail) (by omega)|exact cell_boolsR (by assumption) (by (repeat (first|exact .here|apply Mem.there)); first|done|fail)))) (g:GWz C L all o d:=by exact ⟨rfl,rfl,rfl⟩) (hin:(ps.all (done.contains ·))=true:=by exact rfl):DJ C D R Hf H L all done ps ls (.q i rest) K:=C1 ho hq g.a g.b g.c hin h
theorem GG {rest:Pl} (h:DJ C D R Hf H ((d,v)::L) all (i::done) (i::ps) ls rest K) (ho:all[i]?=some o:=by exact rfl) (hq:Quiet C R Hf L o v:=by (apply F4; exact rfl; exact rfl; (first|exact cell_own (by (repeat (first|exact .here|apply Mem.there)); first|done|fail) rfl|exact cellR (by assumption) (by (repeat (first|exact .here|apply Mem.there)); first|done|fail)|exact cellH (by assumption) (by (repeat (first|exact .here|apply Mem.there)); first|done|fail)|exact cell_ints (by (repeat (first|exact .here|apply Mem.there)); first|done|fail) (by omega)|exact cell_bools (by assumption) (by (repeat (first|exact .here|apply Mem.there)); first|done|fail)|exact cell_intsR (by (repeat (first|exact .here|apply Mem.there)); first|done|fail) (by omega)|exact cell_boolsR (by assumption) (by (repeat (first|exact .here|apply Mem.there)); first|done|fail)))) (g:GWz C L all o d:=by exact ⟨rfl,rfl,rfl⟩):DJ C D R Hf H L all done ps ls (.p i rest) K:=GO ho hq g.a g.b g.c h
theorem AG {rest:List Oper} (h:JK C D R H ((d,v)::L) (.ops all rest::K)) (hq:Quiet C R H L o v:=by (apply F5; exact rfl; exact rfl)) (g:GWz C L all o d:=by exact ⟨rfl,rfl,rfl⟩):JK C D R H L (.ops all (o::rest)::K):=CW hq g.a g.b g.c h
theorem AX {rest:Pl} (h:DJ C D R Hf H ((d,v)::L) all (i::done) ps ls rest K) (ho:all[i]?=some o:=by exact rfl) (hq:Quiet C R H L o v:=by (apply F5; exact rfl; exact rfl)) (g:GWz C L all o d:=by exact ⟨rfl,rfl,rfl⟩) (hin:(ps.all (done.contains ·))=true:=by exact rfl):DJ C D R Hf H L all done ps ls (.q i rest) K:=C1 ho hq g.a g.b g.c hin h
theorem GH {rest:Pl} (h:DJ C D R Hf H ((d,v)::L) all (i::done) (i::ps) ls rest K) (ho:all[i]?=some o:=by exact rfl) (hq:Quiet C R Hf L o v:=by (apply F5; exact rfl; exact rfl)) (g:GWz C L all o d:=by exact ⟨rfl,rfl,rfl⟩):DJ C D R Hf H L all done ps ls (.p i rest) K:=GO ho hq g.a g.b g.c h
theorem CR {rest:List Oper} (h:JK C D R H ((d,v)::L) (.ops all rest::K)) (hq:Quiet C R H L o v:=by (apply GZ; exact rfl; exact rfl)) (g:GWz C L all o d:=by exact ⟨rfl,rfl,rfl⟩):JK C D R H L (.ops all (o::rest)::K):=CW hq g.a g.b g.c h
theorem BX {rest:Pl} (h:DJ C D R Hf H ((d,v)::L) all (i::done) ps ls rest K) (ho:all[i]?=some o:=by exact rfl) (hq:Quiet C R H L o v:=by (apply GZ; exact rfl; exact rfl)) (g:GWz C L all o d:=by exact ⟨rfl,rfl,rfl⟩) (hin:(ps.all (done.contains ·))=true:=by exact rfl):DJ C D R Hf H L all done ps ls (.q i rest) K:=C1 ho hq g.a g.b g.c hin h
theorem B8 {rest:List Oper} (h:JK C D R H ((d,v)::L) (.ops all rest::K)) (hq:Quiet C R H L o v:=by (apply GN; exact rfl; exact rfl)) (g:GWz C L all o d:=by exact ⟨rfl,rfl,rfl⟩):JK C D R H L (.ops all (o::rest)::K):=CW hq g.a g.b g.c h
theorem B6 {rest:Pl} (h:DJ C D R Hf H ((d,v)::L) all (i::done) ps ls rest K) (ho:all[i]?=some o:=by exact rfl) (hq:Quiet C R H L o v:=by (apply GN; exact rfl; exact rfl)) (g:GWz C L all o d:=by exact ⟨rfl,rfl,rfl⟩) (hin:(ps.all (done.contains ·))=true:=by exact rfl):DJ C D R Hf H L all done ps ls (.q i rest) K:=C1 ho hq g.a g.b g.c hin h
theorem BR {rest:List Oper} (h:JK C D R H ((d,v)::L) (.ops all rest::K)) (hq:Quiet C R H L o v:=by (apply F9; exact rfl; exact rfl; exact rfl; exact rfl; omega)) (g:GWz C L all o d:=by exact ⟨rfl,rfl,rfl⟩):JK C D R H L (.ops all (o::rest)::K):=CW hq g.a g.b g.c h
theorem CM {rest:Pl} (h:DJ C D R Hf H ((d,v)::L) all (i::done) ps ls rest K) (ho:all[i]?=some o:=by exact rfl) (hq:Quiet C R H L o v:=by (apply F9; exact rfl; exact rfl; exact rfl; exact rfl; omega)) (g:GWz C L all o d:=by exact ⟨rfl,rfl,rfl⟩) (hin:(ps.all (done.contains ·))=true:=by exact rfl):DJ C D R Hf H L all done ps ls (.q i rest) K:=C1 ho hq g.a g.b g.c hin h
theorem HJ {rest:Pl} (h:DJ C D R Hf H ((d,v)::L) all (i::done) (i::ps) ls rest K) (ho:all[i]?=some o:=by exact rfl) (hq:Quiet C R Hf L o v:=by (apply F9; exact rfl; exact rfl; exact rfl; exact rfl; omega)) (g:GWz C L all o d:=by exact ⟨rfl,rfl,rfl⟩):DJ C D R Hf H L all done ps ls (.p i rest) K:=GO ho hq g.a g.b g.c h
theorem BT {rest:List Oper} (h:JK C D R H ((d,v)::L) (.ops all rest::K)) (hq:Quiet C R H L o v:=by (apply F6; exact rfl; exact rfl; exact rfl; exact rfl; omega)) (g:GWz C L all o d:=by exact ⟨rfl,rfl,rfl⟩):JK C D R H L (.ops all (o::rest)::K):=CW hq g.a g.b g.c h
theorem CD {rest:Pl} (h:DJ C D R Hf H ((d,v)::L) all (i::done) ps ls rest K) (ho:all[i]?=some o:=by exact rfl) (hq:Quiet C R H L o v:=by (apply F6; exact rfl; exact rfl; exact rfl; exact rfl; omega)) (g:GWz C L all o d:=by exact ⟨rfl,rfl,rfl⟩) (hin:(ps.all (done.contains ·))=true:=by exact rfl):DJ C D R Hf H L all done ps ls (.q i rest) K:=C1 ho hq g.a g.b g.c hin h
theorem A5 {rest:List Oper} (h:JK C D R H ((d,v)::L) (.ops all rest::K)) (hq:Quiet C R H L o v:=by (apply GY; exact rfl; exact rfl; exact rfl; exact rfl; omega)) (g:GWz C L all o d:=by exact ⟨rfl,rfl,rfl⟩):JK C D R H L (.ops all (o::rest)::K):=CW hq g.a g.b g.c h
theorem BB {rest:Pl} (h:DJ C D R Hf H ((d,v)::L) all (i::done) ps ls rest K) (ho:all[i]?=some o:=by exact rfl) (hq:Quiet C R H L o v:=by (apply GY; exact rfl; exact rfl; exact rfl; exact rfl; omega)) (g:GWz C L all o d:=by exact ⟨rfl,rfl,rfl⟩) (hin:(ps.all (done.contains ·))=true:=by exact rfl):DJ C D R Hf H L all done ps ls (.q i rest) K:=C1 ho hq g.a g.b g.c hin h
theorem HK {rest:List Oper} (h:JK C D R H ((d,v)::L) (.ops all rest::K)) (hq:Quiet C R H L o v:=by (apply G0; exact rfl; exact rfl; exact rfl; exact rfl; omega)) (g:GWz C L all o d:=by exact ⟨rfl,rfl,rfl⟩):JK C D R H L (.ops all (o::rest)::K):=CW hq g.a g.b g.c h
theorem HL {rest:Pl} (h:DJ C D R Hf H ((d,v)::L) all (i::done) ps ls rest K) (ho:all[i]?=some o:=by exact rfl) (hq:Quiet C R H L o v:=by (apply G0; exact rfl; exact rfl; exact rfl; exact rfl; omega)) (g:GWz C L all o d:=by exact ⟨rfl,rfl,rfl⟩) (hin:(ps.all (done.contains ·))=true:=by exact rfl):DJ C D R Hf H L all done ps ls (.q i rest) K:=C1 ho hq g.a g.b g.c hin h
theorem AR {rest:List Oper} (h:JK C D R H ((d,v)::L) (.ops all rest::K)) (hq:Quiet C R H L o v:=by (apply FS; exact rfl; exact rfl)) (g:GWz C L all o d:=by exact ⟨rfl,rfl,rfl⟩):JK C D R H L (.ops all (o::rest)::K):=CW hq g.a g.b g.c h
theorem BG {rest:Pl} (h:DJ C D R Hf H ((d,v)::L) all (i::done) ps ls rest K) (ho:all[i]?=some o:=by exact rfl) (hq:Quiet C R H L o v:=by (apply FS; exact rfl; exact rfl)) (g:GWz C L all o d:=by exact ⟨rfl,rfl,rfl⟩) (hin:(ps.all (done.contains ·))=true:=by exact rfl):DJ C D R Hf H L all done ps ls (.q i rest) K:=C1 ho hq g.a g.b g.c hin h
theorem AN {rest:List Oper} (h:JK C D R H ((d,v)::L) (.ops all rest::K)) (hq:Quiet C R H L o v:=by (apply FT; exact rfl; exact rfl)) (g:GWz C L all o d:=by exact ⟨rfl,rfl,rfl⟩):JK C D R H L (.ops all (o::rest)::K):=CW hq g.a g.b g.c h
theorem BM {rest:Pl} (h:DJ C D R Hf H ((d,v)::L) all (i::done) ps ls rest K) (ho:all[i]?=some o:=by exact rfl) (hq:Quiet C R H L o v:=by (apply FT; exact rfl; exact rfl)) (g:GWz C L all o d:=by exact ⟨rfl,rfl,rfl⟩) (hin:(ps.all (done.contains ·))=true:=by exact rfl):DJ C D R Hf H L all done ps ls (.q i rest) K:=C1 ho hq g.a g.b g.c hin h
theorem AU {rest:List Oper} (h:JK C D R H ((d,v)::L) (.ops all rest::K)) (hq:Quiet C R H L o v:=by (apply GM; exact rfl; exact rfl)) (g:GWz C L all o d:=by exact ⟨rfl,rfl,rfl⟩):JK C D R H L (.ops all (o::rest)::K):=CW hq g.a g.b g.c h
theorem CZ {rest:Pl} (h:DJ C D R Hf H ((d,v)::L) all (i::done) ps ls rest K) (ho:all[i]?=some o:=by exact rfl) (hq:Quiet C R H L o v:=by (apply GM; exact rfl; exact rfl)) (g:GWz C L all o d:=by exact ⟨rfl,rfl,rfl⟩) (hin:(ps.all (done.contains ·))=true:=by exact rfl):DJ C D R Hf H L all done ps ls (.q i rest) K:=C1 ho hq g.a g.b g.c hin h
theorem BN {rest:List Oper} (h:JK C D R H ((d,v)::L) (.ops all rest::K)) (hq:Quiet C R H L o v:=by (apply q_not; exact rfl)) (g:GWz C L all o d:=by exact ⟨rfl,rfl,rfl⟩):JK C D R H L (.ops all (o::rest)::K):=CW hq g.a g.b g.c h
theorem C8 {rest:Pl} (h:DJ C D R Hf H ((d,v)::L) all (i::done) ps ls rest K) (ho:all[i]?=some o:=by exact rfl) (hq:Quiet C R H L o v:=by (apply q_not; exact rfl)) (g:GWz C L all o d:=by exact ⟨rfl,rfl,rfl⟩) (hin:(ps.all (done.contains ·))=true:=by exact rfl):DJ C D R Hf H L all done ps ls (.q i rest) K:=C1 ho hq g.a g.b g.c hin h
theorem CG {rest:List Oper} (h:JK C D R H ((d,v)::L) (.ops all rest::K)) (hq:Quiet C R H L o v:=by (apply EF; exact rfl)) (g:GWz C L all o d:=by exact ⟨rfl,rfl,rfl⟩):JK C D R H L (.ops all (o::rest)::K):=CW hq g.a g.b g.c h
theorem BE {rest:Pl} (h:DJ C D R Hf H ((d,v)::L) all (i::done) ps ls rest K) (ho:all[i]?=some o:=by exact rfl) (hq:Quiet C R H L o v:=by (apply EF; exact rfl)) (g:GWz C L all o d:=by exact ⟨rfl,rfl,rfl⟩) (hin:(ps.all (done.contains ·))=true:=by exact rfl):DJ C D R Hf H L all done ps ls (.q i rest) K:=C1 ho hq g.a g.b g.c hin h
theorem FR {rest:Pl} (h:DJ C D R Hf H ((d,v)::L) all (i::done) (i::ps) ls rest K) (ho:all[i]?=some o:=by exact rfl) (hq:Quiet C R Hf L o v:=by (apply EF; exact rfl)) (g:GWz C L all o d:=by exact ⟨rfl,rfl,rfl⟩):DJ C D R Hf H L all done ps ls (.p i rest) K:=GO ho hq g.a g.b g.c h
theorem A9 {rest:List Oper} (h:JK C D R H ((d,v)::L) (.ops all rest::K)) (hq:Quiet C R H L o v:=by (apply HC; exact rfl; exact rfl; omega)) (g:GWz C L all o d:=by exact ⟨rfl,rfl,rfl⟩):JK C D R H L (.ops all (o::rest)::K):=CW hq g.a g.b g.c h
theorem zd_inc {rest:Pl} (h:DJ C D R Hf H ((d,v)::L) all (i::done) ps ls rest K) (ho:all[i]?=some o:=by exact rfl) (hq:Quiet C R H L o v:=by (apply HC; exact rfl; exact rfl; omega)) (g:GWz C L all o d:=by exact ⟨rfl,rfl,rfl⟩) (hin:(ps.all (done.contains ·))=true:=by exact rfl):DJ C D R Hf H L all done ps ls (.q i rest) K:=C1 ho hq g.a g.b g.c hin h
theorem G3 {rest:Pl} (h:DJ C D R Hf H ((d,v)::L) all (i::done) (i::ps) ls rest K) (ho:all[i]?=some o:=by exact rfl) (hq:Quiet C R Hf L o v:=by (apply HC; exact rfl; exact rfl; omega)) (g:GWz C L all o d:=by exact ⟨rfl,rfl,rfl⟩):DJ C D R Hf H L all done ps ls (.p i rest) K:=GO ho hq g.a g.b g.c h
theorem BD {rest:List Oper} (h:JK C D R H ((d,v)::L) (.ops all rest::K)) (hq:Quiet C R H L o v:=by (apply q_lt; exact rfl; exact rfl; omega)) (g:GWz C L all o d:=by exact ⟨rfl,rfl,rfl⟩):JK C D R H L (.ops all (o::rest)::K):=CW hq g.a g.b g.c h
theorem D6 {rest:Pl} (h:DJ C D R Hf H ((d,v)::L) all (i::done) ps ls rest K) (ho:all[i]?=some o:=by exact rfl) (hq:Quiet C R H L o v:=by (apply q_lt; exact rfl; exact rfl; omega)) (g:GWz C L all o d:=by exact ⟨rfl,rfl,rfl⟩) (hin:(ps.all (done.contains ·))=true:=by exact rfl):DJ C D R Hf H L all done ps ls (.q i rest) K:=C1 ho hq g.a g.b g.c hin h
theorem A0 {rest:List Oper} (h:JK C D R H ((d,v)::L) (.ops all rest::K)) (hq:Quiet C R H L o v:=by (apply q_ltF; exact rfl; exact rfl; omega)) (g:GWz C L all o d:=by exact ⟨rfl,rfl,rfl⟩):JK C D R H L (.ops all (o::rest)::K):=CW hq g.a g.b g.c h
theorem DK {rest:Pl} (h:DJ C D R Hf H ((d,v)::L) all (i::done) ps ls rest K) (ho:all[i]?=some o:=by exact rfl) (hq:Quiet C R H L o v:=by (apply q_ltF; exact rfl; exact rfl; omega)) (g:GWz C L all o d:=by exact ⟨rfl,rfl,rfl⟩) (hin:(ps.all (done.contains ·))=true:=by exact rfl):DJ C D R Hf H L all done ps ls (.q i rest) K:=C1 ho hq g.a g.b g.c hin h
theorem CQ {rest:List Oper} (h:JK C D R H ((d,v)::L) (.ops all rest::K)) (hq:Quiet C R H L o v:=by (apply q_eq; exact rfl; exact rfl; omega)) (g:GWz C L all o d:=by exact ⟨rfl,rfl,rfl⟩):JK C D R H L (.ops all (o::rest)::K):=CW hq g.a g.b g.c h
theorem DP {rest:Pl} (h:DJ C D R Hf H ((d,v)::L) all (i::done) ps ls rest K) (ho:all[i]?=some o:=by exact rfl) (hq:Quiet C R H L o v:=by (apply q_eq; exact rfl; exact rfl; omega)) (g:GWz C L all o d:=by exact ⟨rfl,rfl,rfl⟩) (hin:(ps.all (done.contains ·))=true:=by exact rfl):DJ C D R Hf H L all done ps ls (.q i rest) K:=C1 ho hq g.a g.b g.c hin h
theorem CE {rest:List Oper} (h:JK C D R H ((d,v)::L) (.ops all rest::K)) (hq:Quiet C R H L o v:=by (apply q_eqF; exact rfl; exact rfl; omega)) (g:GWz C L all o d:=by exact ⟨rfl,rfl,rfl⟩):JK C D R H L (.ops all (o::rest)::K):=CW hq g.a g.b g.c h
theorem C7 {rest:Pl} (h:DJ C D R Hf H ((d,v)::L) all (i::done) ps ls rest K) (ho:all[i]?=some o:=by exact rfl) (hq:Quiet C R H L o v:=by (apply q_eqF; exact rfl; exact rfl; omega)) (g:GWz C L all o d:=by exact ⟨rfl,rfl,rfl⟩) (hin:(ps.all (done.contains ·))=true:=by exact rfl):DJ C D R Hf H L all done ps ls (.q i rest) K:=C1 ho hq g.a g.b g.c hin h
theorem CJ {rest:List Oper} (h:JK C D R H ((d,v)::L) (.ops all rest::K)) (hq:Quiet C R H L o v:=by (apply q_ne; exact rfl; exact rfl; omega)) (g:GWz C L all o d:=by exact ⟨rfl,rfl,rfl⟩):JK C D R H L (.ops all (o::rest)::K):=CW hq g.a g.b g.c h
theorem GR {rest:Pl} (h:DJ C D R Hf H ((d,v)::L) all (i::done) ps ls rest K) (ho:all[i]?=some o:=by exact rfl) (hq:Quiet C R H L o v:=by (apply q_ne; exact rfl; exact rfl; omega)) (g:GWz C L all o d:=by exact ⟨rfl,rfl,rfl⟩) (hin:(ps.all (done.contains ·))=true:=by exact rfl):DJ C D R Hf H L all done ps ls (.q i rest) K:=C1 ho hq g.a g.b g.c hin h
theorem BK {rest:List Oper} (h:JK C D R H ((d,v)::L) (.ops all rest::K)) (hq:Quiet C R H L o v:=by (apply q_neF; exact rfl; exact rfl; omega)) (g:GWz C L all o d:=by exact ⟨rfl,rfl,rfl⟩):JK C D R H L (.ops all (o::rest)::K):=CW hq g.a g.b g.c h
theorem EV {rest:Pl} (h:DJ C D R Hf H ((d,v)::L) all (i::done) ps ls rest K) (ho:all[i]?=some o:=by exact rfl) (hq:Quiet C R H L o v:=by (apply q_neF; exact rfl; exact rfl; omega)) (g:GWz C L all o d:=by exact ⟨rfl,rfl,rfl⟩) (hin:(ps.all (done.contains ·))=true:=by exact rfl):DJ C D R Hf H L all done ps ls (.q i rest) K:=C1 ho hq g.a g.b g.c hin h
theorem CT {rest:List Oper} (h:JK C D R H ((d,v)::L) (.ops all rest::K)) (hq:Quiet C R H L o v:=by (apply q_gt; exact rfl; exact rfl; omega)) (g:GWz C L all o d:=by exact ⟨rfl,rfl,rfl⟩):JK C D R H L (.ops all (o::rest)::K):=CW hq g.a g.b g.c h
theorem DY {rest:Pl} (h:DJ C D R Hf H ((d,v)::L) all (i::done) ps ls rest K) (ho:all[i]?=some o:=by exact rfl) (hq:Quiet C R H L o v:=by (apply q_gt; exact rfl; exact rfl; omega)) (g:GWz C L all o d:=by exact ⟨rfl,rfl,rfl⟩) (hin:(ps.all (done.contains ·))=true:=by exact rfl):DJ C D R Hf H L all done ps ls (.q i rest) K:=C1 ho hq g.a g.b g.c hin h
theorem B7 {rest:List Oper} (h:JK C D R H ((d,v)::L) (.ops all rest::K)) (hq:Quiet C R H L o v:=by (apply q_gtF; exact rfl; exact rfl; omega)) (g:GWz C L all o d:=by exact ⟨rfl,rfl,rfl⟩):JK C D R H L (.ops all (o::rest)::K):=CW hq g.a g.b g.c h
theorem DL {rest:Pl} (h:DJ C D R Hf H ((d,v)::L) all (i::done) ps ls rest K) (ho:all[i]?=some o:=by exact rfl) (hq:Quiet C R H L o v:=by (apply q_gtF; exact rfl; exact rfl; omega)) (g:GWz C L all o d:=by exact ⟨rfl,rfl,rfl⟩) (hin:(ps.all (done.contains ·))=true:=by exact rfl):DJ C D R Hf H L all done ps ls (.q i rest) K:=C1 ho hq g.a g.b g.c hin h
theorem C9 {rest:List Oper} (h:JK C D R H ((d,v)::L) (.ops all rest::K)) (hq:Quiet C R H L o v:=by (apply q_le; exact rfl; exact rfl; omega)) (g:GWz C L all o d:=by exact ⟨rfl,rfl,rfl⟩):JK C D R H L (.ops all (o::rest)::K):=CW hq g.a g.b g.c h
theorem ES {rest:Pl} (h:DJ C D R Hf H ((d,v)::L) all (i::done) ps ls rest K) (ho:all[i]?=some o:=by exact rfl) (hq:Quiet C R H L o v:=by (apply q_le; exact rfl; exact rfl; omega)) (g:GWz C L all o d:=by exact ⟨rfl,rfl,rfl⟩) (hin:(ps.all (done.contains ·))=true:=by exact rfl):DJ C D R Hf H L all done ps ls (.q i rest) K:=C1 ho hq g.a g.b g.c hin h
theorem DB {rest:List Oper} (h:JK C D R H ((d,v)::L) (.ops all rest::K)) (hq:Quiet C R H L o v:=by (apply q_leF; exact rfl; exact rfl; omega)) (g:GWz C L all o d:=by exact ⟨rfl,rfl,rfl⟩):JK C D R H L (.ops all (o::rest)::K):=CW hq g.a g.b g.c h
theorem DZ {rest:Pl} (h:DJ C D R Hf H ((d,v)::L) all (i::done) ps ls rest K) (ho:all[i]?=some o:=by exact rfl) (hq:Quiet C R H L o v:=by (apply q_leF; exact rfl; exact rfl; omega)) (g:GWz C L all o d:=by exact ⟨rfl,rfl,rfl⟩) (hin:(ps.all (done.contains ·))=true:=by exact rfl):DJ C D R Hf H L all done ps ls (.q i rest) K:=C1 ho hq g.a g.b g.c hin h
theorem CX {rest:List Oper} (h:JK C D R H ((d,v)::L) (.ops all rest::K)) (hq:Quiet C R H L o v:=by (apply q_ge; exact rfl; exact rfl; omega)) (g:GWz C L all o d:=by exact ⟨rfl,rfl,rfl⟩):JK C D R H L (.ops all (o::rest)::K):=CW hq g.a g.b g.c h
theorem zd_ge {rest:Pl} (h:DJ C D R Hf H ((d,v)::L) all (i::done) ps ls rest K) (ho:all[i]?=some o:=by exact rfl) (hq:Quiet C R H L o v:=by (apply q_ge; exact rfl; exact rfl; omega)) (g:GWz C L all o d:=by exact ⟨rfl,rfl,rfl⟩) (hin:(ps.all (done.contains ·))=true:=by exact rfl):DJ C D R Hf H L all done ps ls (.q i rest) K:=C1 ho hq g.a g.b g.c hin h
theorem BP {rest:List Oper} (h:JK C D R H ((d,v)::L) (.ops all rest::K)) (hq:Quiet C R H L o v:=by (apply q_geF; exact rfl; exact rfl; omega)) (g:GWz C L all o d:=by exact ⟨rfl,rfl,rfl⟩):JK C D R H L (.ops all (o::rest)::K):=CW hq g.a g.b g.c h
theorem zd_geF {rest:Pl} (h:DJ C D R Hf H ((d,v)::L) all (i::done) ps ls rest K) (ho:all[i]?=some o:=by exact rfl) (hq:Quiet C R H L o v:=by (apply q_geF; exact rfl; exact rfl; omega)) (g:GWz C L all o d:=by exact ⟨rfl,rfl,rfl⟩) (hin:(ps.all (done.contains ·))=true:=by exact rfl):DJ C D R Hf H L all done ps ls (.q i rest) K:=C1 ho hq g.a g.b g.c hin h
theorem D8 {rest:List Oper} (h:JK C D R H ((d,v)::L) (.ops all rest::K)) (hq:Quiet C R H L o v:=by (apply FC; exact rfl; exact rfl; omega; omega)) (g:GWz C L all o d:=by exact ⟨rfl,rfl,rfl⟩):JK C D R H L (.ops all (o::rest)::K):=CW hq g.a g.b g.c h
theorem BQ {rest:Pl} (h:DJ C D R Hf H ((d,v)::L) all (i::done) ps ls rest K) (ho:all[i]?=some o:=by exact rfl) (hq:Quiet C R H L o v:=by (apply FC; exact rfl; exact rfl; omega; omega)) (g:GWz C L all o d:=by exact ⟨rfl,rfl,rfl⟩) (hin:(ps.all (done.contains ·))=true:=by exact rfl):DJ C D R Hf H L all done ps ls (.q i rest) K:=C1 ho hq g.a g.b g.c hin h
theorem CB {rest:List Oper} (h:JK C D R H ((d,v)::L) (.ops all rest::K)) (hq:Quiet C R H L o v:=by (apply G8; exact rfl; exact rfl; exact ⟨by omega,by omega⟩)) (g:GWz C L all o d:=by exact ⟨rfl,rfl,rfl⟩):JK C D R H L (.ops all (o::rest)::K):=CW hq g.a g.b g.c h
theorem CY {rest:Pl} (h:DJ C D R Hf H ((d,v)::L) all (i::done) ps ls rest K) (ho:all[i]?=some o:=by exact rfl) (hq:Quiet C R H L o v:=by (apply G8; exact rfl; exact rfl; exact ⟨by omega,by omega⟩)) (g:GWz C L all o d:=by exact ⟨rfl,rfl,rfl⟩) (hin:(ps.all (done.contains ·))=true:=by exact rfl):DJ C D R Hf H L all done ps ls (.q i rest) K:=C1 ho hq g.a g.b g.c hin h
theorem CP {rest:List Oper} (h:JK C D R H ((d,v)::L) (.ops all rest::K)) (hq:Quiet C R H L o v:=by (apply G9; exact rfl; exact rfl; exact ⟨by omega,by omega⟩)) (g:GWz C L all o d:=by exact ⟨rfl,rfl,rfl⟩):JK C D R H L (.ops all (o::rest)::K):=CW hq g.a g.b g.c h
theorem D9 {rest:Pl} (h:DJ C D R Hf H ((d,v)::L) all (i::done) ps ls rest K) (ho:all[i]?=some o:=by exact rfl) (hq:Quiet C R H L o v:=by (apply G9; exact rfl; exact rfl; exact ⟨by omega,by omega⟩)) (g:GWz C L all o d:=by exact ⟨rfl,rfl,rfl⟩) (hin:(ps.all (done.contains ·))=true:=by exact rfl):DJ C D R Hf H L all done ps ls (.q i rest) K:=C1 ho hq g.a g.b g.c hin h
theorem zq_dbl {rest:List Oper} (h:JK C D R H ((d,v)::L) (.ops all rest::K)) (hq:Quiet C R H L o v:=by (apply q_dbl; exact rfl; exact rfl; omega)) (g:GWz C L all o d:=by exact ⟨rfl,rfl,rfl⟩):JK C D R H L (.ops all (o::rest)::K):=CW hq g.a g.b g.c h
theorem G4 {rest:Pl} (h:DJ C D R Hf H ((d,v)::L) all (i::done) ps ls rest K) (ho:all[i]?=some o:=by exact rfl) (hq:Quiet C R H L o v:=by (apply q_dbl; exact rfl; exact rfl; omega)) (g:GWz C L all o d:=by exact ⟨rfl,rfl,rfl⟩) (hin:(ps.all (done.contains ·))=true:=by exact rfl):DJ C D R Hf H L all done ps ls (.q i rest) K:=C1 ho hq g.a g.b g.c hin h
theorem FI {rest:List Oper} (h:JK C D R H ((d,v)::L) (.ops all rest::K)) (hq:Quiet C R H L o v:=by (apply HB; exact rfl; exact rfl; exact ⟨by omega,by omega⟩)) (g:GWz C L all o d:=by exact ⟨rfl,rfl,rfl⟩):JK C D R H L (.ops all (o::rest)::K):=CW hq g.a g.b g.c h
theorem zd_mul {rest:Pl} (h:DJ C D R Hf H ((d,v)::L) all (i::done) ps ls rest K) (ho:all[i]?=some o:=by exact rfl) (hq:Quiet C R H L o v:=by (apply HB; exact rfl; exact rfl; exact ⟨by omega,by omega⟩)) (g:GWz C L all o d:=by exact ⟨rfl,rfl,rfl⟩) (hin:(ps.all (done.contains ·))=true:=by exact rfl):DJ C D R Hf H L all done ps ls (.q i rest) K:=C1 ho hq g.a g.b g.c hin h
theorem ET {rest:List Oper} (h:JK C D R H ((d,v)::L) (.ops all rest::K)) (hq:Quiet C R H L o v:=by (apply G1; exact rfl; exact rfl; omega)) (g:GWz C L all o d:=by exact ⟨rfl,rfl,rfl⟩):JK C D R H L (.ops all (o::rest)::K):=CW hq g.a g.b g.c h
theorem GI {rest:Pl} (h:DJ C D R Hf H ((d,v)::L) all (i::done) ps ls rest K) (ho:all[i]?=some o:=by exact rfl) (hq:Quiet C R H L o v:=by (apply G1; exact rfl; exact rfl; omega)) (g:GWz C L all o d:=by exact ⟨rfl,rfl,rfl⟩) (hin:(ps.all (done.contains ·))=true:=by exact rfl):DJ C D R Hf H L all done ps ls (.q i rest) K:=C1 ho hq g.a g.b g.c hin h
theorem EW {rest:List Oper} (h:JK C D R H ((d,v)::L) (.ops all rest::K)) (hq:Quiet C R H L o v:=by (apply q_par; exact rfl; exact rfl)) (g:GWz C L all o d:=by exact ⟨rfl,rfl,rfl⟩):JK C D R H L (.ops all (o::rest)::K):=CW hq g.a g.b g.c h
theorem G5 {rest:List Oper} (h:JK C D R H ((d,v)::L) (.ops all rest::K)) (hq:Quiet C R H L o v:=by (apply q_quo; exact rfl; exact rfl; omega; omega; omega)) (g:GWz C L all o d:=by exact ⟨rfl,rfl,rfl⟩):JK C D R H L (.ops all (o::rest)::K):=CW hq g.a g.b g.c h
theorem zd_rem {rest:Pl} (h:DJ C D R Hf H ((d,v)::L) all (i::done) ps ls rest K) (ho:all[i]?=some o:=by exact rfl) (hq:Quiet C R H L o v:=by (apply q_rem; exact rfl; exact rfl; omega; omega)) (g:GWz C L all o d:=by exact ⟨rfl,rfl,rfl⟩) (hin:(ps.all (done.contains ·))=true:=by exact rfl):DJ C D R Hf H L all done ps ls (.q i rest) K:=C1 ho hq g.a g.b g.c hin h
theorem AV {rest:List Oper} (h:JK C D R H ((d,v)::L) (.ops all rest::K)) (hq:Quiet C R H L o v:=by (apply EP; exact rfl; exact rfl; (first|(exact cells_own (by (repeat (first|exact .here|apply Mem.there)); first|done|fail); exact rfl)|(exact cellsR (by assumption) (by (repeat (first|exact .here|apply Mem.there)); first|done|fail); exact rfl)|(exact cellsH (by assumption) (by (repeat (first|exact .here|apply Mem.there)); first|done|fail); exact rfl)|(exact cellsP (by assumption) (by (repeat (first|exact .here|apply Mem.there)); first|done|fail); exact rfl)))) (g:GWz C L all o d:=by exact ⟨rfl,rfl,rfl⟩):JK C D R H L (.ops all (o::rest)::K):=CW hq g.a g.b g.c h
theorem BJ {rest:Pl} (h:DJ C D R Hf H ((d,v)::L) all (i::done) ps ls rest K) (ho:all[i]?=some o:=by exact rfl) (hq:Quiet C R H L o v:=by (apply EP; exact rfl; exact rfl; (first|(exact cells_own (by (repeat (first|exact .here|apply Mem.there)); first|done|fail); exact rfl)|(exact cellsR (by assumption) (by (repeat (first|exact .here|apply Mem.there)); first|done|fail); exact rfl)|(exact cellsH (by assumption) (by (repeat (first|exact .here|apply Mem.there)); first|done|fail); exact rfl)|(exact cellsP (by assumption) (by (repeat (first|exact .here|apply Mem.there)); first|done|fail); exact rfl)))) (g:GWz C L all o d:=by exact ⟨rfl,rfl,rfl⟩) (hin:(ps.all (done.contains ·))=true:=by exact rfl):DJ C D R Hf H L all done ps ls (.q i rest) K:=C1 ho hq g.a g.b g.c hin h
theorem GS {rest:Pl} (h:DJ C D R Hf H ((d,v)::L) all (i::done) (i::ps) ls rest K) (ho:all[i]?=some o:=by exact rfl) (hq:Quiet C R Hf L o v:=by (apply EP; exact rfl; exact rfl; (first|(exact cells_own (by (repeat (first|exact .here|apply Mem.there)); first|done|fail); exact rfl)|(exact cellsR (by assumption) (by (repeat (first|exact .here|apply Mem.there)); first|done|fail); exact rfl)|(exact cellsH (by assumption) (by (repeat (first|exact .here|apply Mem.there)); first|done|fail); exact rfl)|(exact cellsP (by assumption) (by (repeat (first|exact .here|apply Mem.there)); first|done|fail); exact rfl)))) (g:GWz C L all o d:=by exact ⟨rfl,rfl,rfl⟩):DJ C D R Hf H L all done ps ls (.p i rest) K:=GO ho hq g.a g.b g.c h
theorem EX {rest:List Oper} (h:JK C D R H ((d,v)::L) (.ops all rest::K)) (hq:Quiet C R H L o v:=by (apply q_min; exact rfl; exact rfl)) (g:GWz C L all o d:=by exact ⟨rfl,rfl,rfl⟩):JK C D R H L (.ops all (o::rest)::K):=CW hq g.a g.b g.c h
theorem zd_min {rest:Pl} (h:DJ C D R Hf H ((d,v)::L) all (i::done) ps ls rest K) (ho:all[i]?=some o:=by exact rfl) (hq:Quiet C R H L o v:=by (apply q_min; exact rfl; exact rfl)) (g:GWz C L all o d:=by exact ⟨rfl,rfl,rfl⟩) (hin:(ps.all (done.contains ·))=true:=by exact rfl):DJ C D R Hf H L all done ps ls (.q i rest) K:=C1 ho hq g.a g.b g.c hin h
theorem FJ {rest:List Oper} (h:JK C D R H ((d,v)::L) (.ops all rest::K)) (hq:Quiet C R H L o v:=by (apply q_max; exact rfl; exact rfl)) (g:GWz C L all o d:=by exact ⟨rfl,rfl,rfl⟩):JK C D R H L (.ops all (o::rest)::K):=CW hq g.a g.b g.c h
theorem G6 {rest:Pl} (h:DJ C D R Hf H ((d,v)::L) all (i::done) ps ls rest K) (ho:all[i]?=some o:=by exact rfl) (hq:Quiet C R H L o v:=by (apply q_max; exact rfl; exact rfl)) (g:GWz C L all o d:=by exact ⟨rfl,rfl,rfl⟩) (hin:(ps.all (done.contains ·))=true:=by exact rfl):DJ C D R Hf H L all done ps ls (.q i rest) K:=C1 ho hq g.a g.b g.c hin h
theorem CL {rest:List Oper} (h:JK C D R H ((d,v)::L) (.ops all rest::K)) (hq:Quiet C R H L o v:=by (apply F3; exact rfl; exact rfl)) (g:GWz C L all o d:=by exact ⟨rfl,rfl,rfl⟩):JK C D R H L (.ops all (o::rest)::K):=CW hq g.a g.b g.c h
theorem FK {rest:List Oper} (h:JK C D R H ((d,v)::L) (.ops all rest::K)) (hq:Quiet C R H L o v:=by (apply GQ; exact rfl; exact rfl; exact rfl)) (g:GWz C L all o d:=by exact ⟨rfl,rfl,rfl⟩):JK C D R H L (.ops all (o::rest)::K):=CW hq g.a g.b g.c h
theorem EY {rest:List Oper} (h:JK C D R H ((d,v)::L) (.ops all rest::K)) (hq:Quiet C R H L o v:=by (apply q_cap; exact rfl; exact rfl)) (g:GWz C L all o d:=by exact ⟨rfl,rfl,rfl⟩):JK C D R H L (.ops all (o::rest)::K):=CW hq g.a g.b g.c h
theorem E7 {rest:List Oper} (h:JK C D R H ((d,v)::L) (.ops all rest::K)) (hq:Quiet C R H L o v:=by (apply E6; exact rfl; exact rfl; exact rfl; exact rfl; omega)) (g:GWz C L all o d:=by exact ⟨rfl,rfl,rfl⟩):JK C D R H L (.ops all (o::rest)::K):=CW hq g.a g.b g.c h
theorem FZ {rest:Pl} (h:DJ C D R Hf H ((d,v)::L) all (i::done) ps ls rest K) (ho:all[i]?=some o:=by exact rfl) (hq:Quiet C R H L o v:=by (apply E6; exact rfl; exact rfl; exact rfl; exact rfl; omega)) (g:GWz C L all o d:=by exact ⟨rfl,rfl,rfl⟩) (hin:(ps.all (done.contains ·))=true:=by exact rfl):DJ C D R Hf H L all done ps ls (.q i rest) K:=C1 ho hq g.a g.b g.c hin h
theorem F0 {rest:List Oper} (h:JK C D R H ((d,v)::L) (.ops all rest::K)) (hq:Quiet C R H L o v:=by (apply GC; exact rfl; exact rfl; exact rfl; exact rfl; omega)) (g:GWz C L all o d:=by exact ⟨rfl,rfl,rfl⟩):JK C D R H L (.ops all (o::rest)::K):=CW hq g.a g.b g.c h
theorem ED {rest:Pl} (h:DJ C D R Hf H ((d,v)::L) all (i::done) (i::ps) ls rest K) (ho:all[i]?=some o:=by exact rfl) (hq:Quiet C R Hf L o v:=by (apply GC; exact rfl; exact rfl; exact rfl; exact rfl; omega)) (g:GWz C L all o d:=by exact ⟨rfl,rfl,rfl⟩):DJ C D R Hf H L all done ps ls (.p i rest) K:=GO ho hq g.a g.b g.c h
theorem BY {rest:List Oper} (h:JK C D R H ((d,v)::L) (.ops all rest::K)) (hq:Quiet C R H L o v:=by (apply F8; exact rfl; exact rfl; exact (by (repeat (first|exact Bld.nil|apply Bld.put rfl rfl rfl|apply Bld.keep rfl)); first|done|fail))) (g:GWz C L all o d:=by exact ⟨rfl,rfl,rfl⟩):JK C D R H L (.ops all (o::rest)::K):=CW hq g.a g.b g.c h
theorem CV {rest:Pl} (h:DJ C D R Hf H ((d,v)::L) all (i::done) ps ls rest K) (ho:all[i]?=some o:=by exact rfl) (hq:Quiet C R H L o v:=by (apply F8; exact rfl; exact rfl; exact (by (repeat (first|exact Bld.nil|apply Bld.put rfl rfl rfl|apply Bld.keep rfl)); first|done|fail))) (g:GWz C L all o d:=by exact ⟨rfl,rfl,rfl⟩) (hin:(ps.all (done.contains ·))=true:=by exact rfl):DJ C D R Hf H L all done ps ls (.q i rest) K:=C1 ho hq g.a g.b g.c hin h
theorem zq_neg {rest:List Oper} (h:JK C D R H ((d,v)::L) (.ops all rest::K)) (hq:Quiet C R H L o v:=by (apply q_neg; exact rfl; exact ⟨by omega,by omega⟩)) (g:GWz C L all o d:=by exact ⟨rfl,rfl,rfl⟩):JK C D R H L (.ops all (o::rest)::K):=CW hq g.a g.b g.c h
theorem GT {rest:List Oper} {post:Value→List PH→Prop} (h:∀ u H',post u H'→JK C D R H' ((d,u)::L) (.ops all rest::K)) (hl:Loud C R H L o post:=by (apply FP; exact rfl; exact rfl; exact rfl; exact rfl; exact rfl; exact rfl; omega; omega)) (g:GWz C L all o d:=by exact ⟨rfl,rfl,rfl⟩):JK C D R H L (.ops all (o::rest)::K):=BH hl g.a g.b g.c h
theorem GU {rest:Pl} {post:Value→List PH→Prop} (h:∀ v H',post v H'→DJ C D R Hf H' ((d,v)::L) all (i::done) ps (i::ls) rest K) (ho:all[i]?=some o:=by exact rfl) (hl:Loud C R H L o post:=by (apply FP; exact rfl; exact rfl; exact rfl; exact rfl; exact rfl; exact rfl; omega; omega)) (g:GWz C L all o d:=by exact ⟨rfl,rfl,rfl⟩) (hsub:∀ v H',post v H'→∀ w,Sat C.N R H' w→Sat C.N R H w:=by (rintro _ _ ⟨b,rfl,rfl⟩ w hw; exact hw.tail)):ActOK C D R Hf H L all done ps ls i .e rest K:=a_e ho hl g.a g.b g.c hsub h
theorem GV {rest:Pl} {post:Value→List PH→Prop} (h:∀ v H',post v H'→DJ C D R Hf H' ((d,v)::L) all (i::done) ps (i::ls) rest K) (ho:all[i]?=some o:=by exact rfl) (hl:Loud C R H L o post:=by (apply FP; exact rfl; exact rfl; exact rfl; exact rfl; exact rfl; exact rfl; omega; omega)) (g:GWz C L all o d:=by exact ⟨rfl,rfl,rfl⟩) (hsub:∀ v H',post v H'→∀ w,Sat C.N R H' w→Sat C.N R H w:=by (rintro _ _ ⟨b,rfl,rfl⟩ w hw; exact hw.tail)):DJ C D R Hf H L all done ps ls (.l i .e rest) K:=CF (a_e ho hl g.a g.b g.c hsub h)
theorem DX {rest:List Oper} {post:Value→List PH→Prop} (h:∀ u H',post u H'→JK C D R H' ((d,u)::L) (.ops all rest::K)) (hl:Loud C R H L o post:=by (apply HG; exact rfl; exact rfl; exact rfl; exact rfl; exact rfl; exact rfl; omega; omega)) (g:GWz C L all o d:=by exact ⟨rfl,rfl,rfl⟩):JK C D R H L (.ops all (o::rest)::K):=BH hl g.a g.b g.c h
theorem EN {rest:List Oper} {post:Value→List PH→Prop} (h:∀ u H',post u H'→JK C D R H' ((d,u)::L) (.ops all rest::K)) (hl:Loud C R H L o post:=by (apply HH; exact rfl; exact rfl; exact rfl; exact rfl; exact rfl; exact rfl; omega; omega)) (g:GWz C L all o d:=by exact ⟨rfl,rfl,rfl⟩):JK C D R H L (.ops all (o::rest)::K):=BH hl g.a g.b g.c h
theorem A4 {rest:List Oper} {post:Value→List PH→Prop} (h:∀ u H',post u H'→JK C D R H' ((d,u)::L) (.ops all rest::K)) (hl:Loud C R H L o post:=by (apply E2; exact rfl)) (g:GWz C L all o d:=by exact ⟨rfl,rfl,rfl⟩):JK C D R H L (.ops all (o::rest)::K):=BH hl g.a g.b g.c h
theorem CS {rest:Pl} {post:Value→List PH→Prop} (h:∀ v H',post v H'→DJ C D R Hf H' ((d,v)::L) all (i::done) ps (i::ls) rest K) (ho:all[i]?=some o:=by exact rfl) (hl:Loud C R H L o post:=by (apply E2; exact rfl)) (g:GWz C L all o d:=by exact ⟨rfl,rfl,rfl⟩) (hsub:∀ v H',post v H'→∀ w,Sat C.N R H' w→Sat C.N R H w:=by (rintro _ _ ⟨b,rfl,rfl⟩ w hw; exact hw.tail)):ActOK C D R Hf H L all done ps ls i .e rest K:=a_e ho hl g.a g.b g.c hsub h
theorem C5 {rest:Pl} {post:Value→List PH→Prop} (h:∀ v H',post v H'→DJ C D R Hf H' ((d,v)::L) all (i::done) ps (i::ls) rest K) (ho:all[i]?=some o:=by exact rfl) (hl:Loud C R H L o post:=by (apply E2; exact rfl)) (g:GWz C L all o d:=by exact ⟨rfl,rfl,rfl⟩) (hsub:∀ v H',post v H'→∀ w,Sat C.N R H' w→Sat C.N R H w:=by (rintro _ _ ⟨b,rfl,rfl⟩ w hw; exact hw.tail)):DJ C D R Hf H L all done ps ls (.l i .e rest) K:=CF (a_e ho hl g.a g.b g.c hsub h)
theorem CK {rest:List Oper} {post:Value→List PH→Prop} (h:∀ u H',post u H'→JK C D R H' ((d,u)::L) (.ops all rest::K)) (hl:Loud C R H L o post:=by (apply FX; exact rfl; exact rfl)) (g:GWz C L all o d:=by exact ⟨rfl,rfl,rfl⟩):JK C D R H L (.ops all (o::rest)::K):=BH hl g.a g.b g.c h
theorem AZ {rest:List Oper} {post:Value→List PH→Prop} (h:∀ u H',post u H'→JK C D R H' ((d,u)::L) (.ops all rest::K)) (hl:Loud C R H L o post:=by (apply DU; exact rfl; exact rfl; exact rfl; exact rfl; exact rfl; exact (by (repeat (first|exact (fun v hv=>absurd hv List.not_mem_nil)|(refine List.forall_mem_cons.2 ⟨?_,?_⟩; (focus (first|exact rfl|assumption))))); first|done|fail); exact (by (repeat (first|exact Flat.nil|apply Flat.one rfl|apply Flat.agg2|apply Flat.agg3|apply Flat.agg1|apply Flat.agg4|apply Flat.agg5)); first|done|fail); exact rfl)) (g:GWz C L all o d:=by exact ⟨rfl,rfl,rfl⟩):JK C D R H L (.ops all (o::rest)::K):=BH hl g.a g.b g.c h
theorem B9 {rest:Pl} {post:Value→List PH→Prop} (h:∀ v H',post v H'→DJ C D R Hf H' ((d,v)::L) all (i::done) ps (i::ls) rest K) (ho:all[i]?=some o:=by exact rfl) (hl:Loud C R H L o post:=by (apply DU; exact rfl; exact rfl; exact rfl; exact rfl; exact rfl; exact (by (repeat (first|exact (fun v hv=>absurd hv List.not_mem_nil)|(refine List.forall_mem_cons.2 ⟨?_,?_⟩; (focus (first|exact rfl|assumption))))); first|done|fail); exact (by (repeat (first|exact Flat.nil|apply Flat.one rfl|apply Flat.agg2|apply Flat.agg3|apply Flat.agg1|apply Flat.agg4|apply Flat.agg5)); first|done|fail); exact rfl)) (g:GWz C L all o d:=by exact ⟨rfl,rfl,rfl⟩) (hsub:∀ v H',post v H'→∀ w,Sat C.N R H' w→Sat C.N R H w:=by (rintro _ _ ⟨b,rfl,rfl⟩ w hw; exact hw.tail)):ActOK C D R Hf H L all done ps ls i .e rest K:=a_e ho hl g.a g.b g.c hsub h
theorem BF {rest:Pl} {post:Value→List PH→Prop} (h:∀ v H',post v H'→DJ C D R Hf H' ((d,v)::L) all (i::done) ps (i::ls) rest K) (ho:all[i]?=some o:=by exact rfl) (hl:Loud C R H L o post:=by (apply DU; exact rfl; exact rfl; exact rfl; exact rfl; exact rfl; exact (by (repeat (first|exact (fun v hv=>absurd hv List.not_mem_nil)|(refine List.forall_mem_cons.2 ⟨?_,?_⟩; (focus (first|exact rfl|assumption))))); first|done|fail); exact (by (repeat (first|exact Flat.nil|apply Flat.one rfl|apply Flat.agg2|apply Flat.agg3|apply Flat.agg1|apply Flat.agg4|apply Flat.agg5)); first|done|fail); exact rfl)) (g:GWz C L all o d:=by exact ⟨rfl,rfl,rfl⟩) (hsub:∀ v H',post v H'→∀ w,Sat C.N R H' w→Sat C.N R H w:=by (rintro _ _ ⟨b,rfl,rfl⟩ w hw; exact hw.tail)):DJ C D R Hf H L all done ps ls (.l i .e rest) K:=CF (a_e ho hl g.a g.b g.c hsub h)
theorem CO {rest:List Oper} {post:Value→List PH→Prop} (h:∀ u H',post u H'→JK C D R H' ((d,u)::L) (.ops all rest::K)) (hl:Loud C R H L o post:=by (apply BO; exact rfl)) (g:GWz C L all o d:=by exact ⟨rfl,rfl,rfl⟩):JK C D R H L (.ops all (o::rest)::K):=BH hl g.a g.b g.c h
theorem HM {rest:Pl} {post:Value→List PH→Prop} (h:∀ v H',post v H'→DJ C D R Hf H' ((d,v)::L) all (i::done) ps (i::ls) rest K) (ho:all[i]?=some o:=by exact rfl) (hl:Loud C R H L o post:=by (apply BO; exact rfl)) (g:GWz C L all o d:=by exact ⟨rfl,rfl,rfl⟩) (hsub:∀ v H',post v H'→∀ w,Sat C.N R H' w→Sat C.N R H w:=by (rintro _ _ ⟨b,rfl,rfl⟩ w hw; exact hw.tail)):ActOK C D R Hf H L all done ps ls i .e rest K:=a_e ho hl g.a g.b g.c hsub h
theorem GJ {rest:Pl} {post:Value→List PH→Prop} (h:∀ v H',post v H'→DJ C D R Hf H' ((d,v)::L) all (i::done) ps (i::ls) rest K) (ho:all[i]?=some o:=by exact rfl) (hl:Loud C R H L o post:=by (apply BO; exact rfl)) (g:GWz C L all o d:=by exact ⟨rfl,rfl,rfl⟩) (hsub:∀ v H',post v H'→∀ w,Sat C.N R H' w→Sat C.N R H w:=by (rintro _ _ ⟨b,rfl,rfl⟩ w hw; exact hw.tail)):DJ C D R Hf H L all done ps ls (.l i .e rest) K:=CF (a_e ho hl g.a g.b g.c hsub h)
theorem E8 {rest:List Oper} {post:Value→List PH→Prop} (h:∀ u H',post u H'→JK C D R H' ((d,u)::L) (.ops all rest::K)) (hl:Loud C R H L o post:=by (apply D5; exact rfl; exact rfl)) (g:GWz C L all o d:=by exact ⟨rfl,rfl,rfl⟩):JK C D R H L (.ops all (o::rest)::K):=BH hl g.a g.b g.c h
theorem DA {all:Array Oper} {o:Oper} {rest:List Oper} {post:Value→List PH→Prop} (h:∀ u H',post u H'→JK C D R H' L (.ops all rest::K)) (hl:Loud C R H L o post:=by (apply FY; exact rfl; exact rfl; exact rfl; exact (by (repeat (first|exact .here|apply Take.there)); first|done|fail); omega)) (hg:wantE all L o=some true:=by exact rfl) (hd:o.dst=none:=by exact rfl):JK C D R H L (.ops all (o::rest)::K):=CI hl hg hd h
theorem D7 {all:Array Oper} {done:List Nat} {i:Nat} {rest:Pl} {o:Oper} {post:Value→List PH→Prop} (h:∀ v H',post v H'→DJ C D R Hf H' L all (i::done) ps (i::ls) rest K) (ho:all[i]?=some o:=by exact rfl) (hl:Loud C R H L o post:=by (apply FY; exact rfl; exact rfl; exact rfl; exact (by (repeat (first|exact .here|apply Take.there)); first|done|fail); omega)) (hg:wantE all L o=some true:=by exact rfl) (hd:o.dst=none:=by exact rfl) (hsub:∀ v H',post v H'→∀ w,Sat C.N R H' w→Sat C.N R Hf w:=by (rintro _ _ ⟨_,rfl⟩ w hw; exact hw.sel (by (repeat (first|exact Sel.nil|(apply Sel.cons; (focus ((repeat (first|exact .here|apply Mem.there|apply Take.there)); first|done|fail))))); first|done|fail))):DJ C D R Hf H L all done ps ls (.l i .b rest) K:=CF (FW ho hl hg hd hsub h)
theorem DM {all:Array Oper} {o:Oper} {rest:List Oper} {post:Value→List PH→Prop} (h:∀ u H',post u H'→JK C D R H' L (.ops all rest::K)) (hl:Loud C R H L o post:=by (apply GP; exact rfl; exact rfl; exact rfl; exact (by (repeat (first|exact .here|apply Take.there)); first|done|fail); omega)) (hg:wantE all L o=some true:=by exact rfl) (hd:o.dst=none:=by exact rfl):JK C D R H L (.ops all (o::rest)::K):=CI hl hg hd h
theorem AY {all:Array Oper} {o:Oper} {rest:List Oper} {post:Value→List PH→Prop} (h:∀ u H',post u H'→JK C D R H' L (.ops all rest::K)) (hl:Loud C R H L o post:=by (apply DV; exact rfl; exact rfl; exact (by (repeat (first|exact .here|apply Take.there)); first|done|fail); exact (by (repeat (first|exact (fun v hv=>absurd hv List.not_mem_nil)|(refine List.forall_mem_cons.2 ⟨?_,?_⟩; (focus (first|exact rfl|assumption))))); first|done|fail); exact rfl; exact rfl)) (hg:wantE all L o=some true:=by exact rfl) (hd:o.dst=none:=by exact rfl):JK C D R H L (.ops all (o::rest)::K):=CI hl hg hd h
theorem BS {all:Array Oper} {o:Oper} {rest:List Oper} {post:Value→List PH→Prop} (h:∀ u H',post u H'→JK C D R H' L (.ops all rest::K)) (hl:Loud C R H L o post:=by (apply E4; exact rfl; exact rfl; (first|exact rfl|assumption); exact rfl; exact (by (repeat (first|exact .here|apply Take.there)); first|done|fail); (focus (repeat (first|exact SetL.here|apply SetL.there)); done))) (hg:wantE all L o=some true:=by exact rfl) (hd:o.dst=none:=by exact rfl):JK C D R H L (.ops all (o::rest)::K):=CI hl hg hd h
theorem D0 {all:Array Oper} {done:List Nat} {i:Nat} {rest:Pl} {o:Oper} {post:Value→List PH→Prop} (h:∀ v H',post v H'→DJ C D R Hf H' L all (i::done) ps (i::ls) rest K) (ho:all[i]?=some o:=by exact rfl) (hl:Loud C R H L o post:=by (apply E4; exact rfl; exact rfl; (first|exact rfl|assumption); exact rfl; exact (by (repeat (first|exact .here|apply Take.there)); first|done|fail); (focus (repeat (first|exact SetL.here|apply SetL.there)); done))) (hg:wantE all L o=some true:=by exact rfl) (hd:o.dst=none:=by exact rfl) (hsub:∀ v H',post v H'→∀ w,Sat C.N R H' w→Sat C.N R Hf w:=by (rintro _ _ ⟨_,rfl⟩ w hw; exact hw.sel (by (repeat (first|exact Sel.nil|(apply Sel.cons; (focus ((repeat (first|exact .here|apply Mem.there|apply Take.there)); first|done|fail))))); first|done|fail))):DJ C D R Hf H L all done ps ls (.l i .b rest) K:=CF (FW ho hl hg hd hsub h)
theorem GW {all:Array Oper} {done:List Nat} {i:Nat} {rest:Pl} {o:Oper} {post:Value→List PH→Prop} (h:∀ v H',post v H'→DJ C D R Hf H' L all (i::done) ps (i::ls) rest K) (ho:all[i]?=some o:=by exact rfl) (hl:Loud C R H L o post:=by (apply EB; exact rfl; exact rfl; (first|exact rfl|assumption); exact rfl; exact (by (repeat (first|exact .here|apply Take.there)); first|done|fail); exact (by first|decide|(simp; done)|(simp; omega)))) (hg:wantE all L o=some true:=by exact rfl) (hd:o.dst=none:=by exact rfl) (hsub:∀ v H',post v H'→∀ w,Sat C.N R H' w→Sat C.N R Hf w:=by (rintro _ _ ⟨_,rfl⟩ w hw; exact hw.sel (by (repeat (first|exact Sel.nil|(apply Sel.cons; (focus ((repeat (first|exact .here|apply Mem.there|apply Take.there)); first|done|fail))))); first|done|fail))):DJ C D R Hf H L all done ps ls (.l i .b rest) K:=CF (FW ho hl hg hd hsub h)
theorem A3 {P:Program} {fn:Func} {N:Bs} {M t:Nat} {R R0 H H':List PH} {L:Env} {K:List It} {post:Value→List PH→Prop} {v:Value} (hp:post v H') (hr:fn.results = #[.tmp t]:=by exact rfl) (hv:look L t=some v:=by exact rfl) (hR:∀ ρ∈R0,ρ∈R:=by exact rsubZ) (hH:Sel H H':=by exact selZ):JK ⟨none,P,FnQ P fn N R0 post,N,M⟩ [] R H L (.code .ret::K):=AO (res1 hr hv) hR hH hp
theorem lzZ {α:Type} {x:Option α} {a b:α} (h:x=some a) (e:a=b:=by kernel_rfl):x=some b:=h.trans (congrArg some e)
abbrev P0Z:Pl:=.q 0 (.q 1 (.q 2 (.q 3 (.q 4 (.q 5 (.q 6 (.q 7 (.q 8 (.q 9 (.q 10 (.q 11 (.q 12 (.q 13 .nil)))))))))))))
abbrev P1Z:Pl:=.q 0 (.q 1 (.q 2 (.q 3 (.q 4 (.q 5 (.q 6 (.q 7 (.q 8 (.q 9 (.q 10 (.q 11 .nil)))))))))))
abbrev P2Z:Pl:=.q 0 (.q 1 (.q 2 (.q 3 (.q 4 (.q 5 (.q 6 (.q 7 (.q 8 (.q 9 (.q 10 (.q 11 (.q 12 (.q 13 (.q 14 (.q 15 .nil)))))))))))))))
abbrev P3Z:Pl:=.q 0 (.q 1 (.q 2 (.q 3 (.q 4 (.q 5 (.q 6 (.q 7 (.q 8 (.q 9 (.q 10 (.q 11 (.q 12 .nil))))))))))))
abbrev P4Z:Pl:=.q 0 (.q 1 (.q 2 (.q 3 (.q 4 (.q 5 (.q 6 (.q 7 (.q 8 (.q 9 (.q 10 (.q 11 (.q 12 (.q 13 (.q 14 (.q 15 (.q 16 .nil))))))))))))))))
abbrev P5Z:Pl:=.q 0 (.q 1 (.q 2 (.q 3 (.q 4 (.q 5 (.q 6 (.q 7 (.q 8 (.q 9 (.q 10 (.q 11 (.q 12 (.q 13 (.q 14 (.q 15 (.q 16 (.q 17 .nil)))))))))))))))))
abbrev P6Z:Pl:=.q 0 (.q 1 (.q 2 (.q 3 (.q 4 (.q 5 (.q 6 (.q 7 (.q 8 (.q 9 (.q 10 .nil))))))))))
abbrev P7Z:Pl:=.q 0 (.q 1 (.q 2 (.q 3 (.q 4 (.q 5 (.q 6 (.q 7 (.q 8 .nil))))))))
abbrev P8Z:Pl:=.q 0 (.q 1 (.q 2 (.q 3 (.q 4 (.q 5 (.q 6 (.q 7 (.q 8 (.q 9 (.q 10 (.q 11 (.q 12 (.q 13 (.q 14 (.q 15 (.q 16 (.q 17 (.q 18 (.q 19 (.q 20 (.q 21 (.q 22 (.q 23 (.q 24 (.q 25 (.q 26 (.q 27 (.q 28 (.q 29 (.q 30 (.q 31 .nil)))))))))))))))))))))))))))))))
abbrev P9Z:Pl:=.q 0 (.q 1 (.q 2 (.q 3 (.q 4 (.q 5 (.q 6 (.q 7 (.q 8 (.q 9 (.q 10 (.q 11 (.q 12 (.q 13 (.q 14 (.q 15 (.q 16 (.q 17 (.q 18 (.q 19 (.q 20 (.q 21 (.q 22 (.q 23 .nil)))))))))))))))))))))))
abbrev P10Z:Pl:=.q 0 (.q 1 (.q 2 (.q 3 (.q 4 (.q 5 (.q 6 (.q 7 (.q 8 (.q 9 (.q 10 (.q 11 (.q 12 (.q 13 (.q 14 (.q 15 (.q 16 (.q 17 (.q 18 (.q 19 (.q 20 (.q 21 (.q 22 (.q 23 (.q 24 (.q 25 (.q 26 (.q 27 (.q 28 (.q 29 (.q 30 .nil))))))))))))))))))))))))))))))
theorem rdB (b:Nat) (t:TypeId) (vs:List Value):RdN (sng b (.cells vs.toArray t (0,0))) b 0 vs:=fun j v hv=>by
 rw [rdc_sng,Nat.zero_add]
 simpa using hv
theorem rdQ {ρ:PH} {b:Nat} {xs ys:List Value} (h:RdN ρ b 0 (xs ++ ys)):RdP ρ b 0 xs:=⟨fun j v hv=>h j v (by
 rw [List.getElem?_append_left (List.getElem?_eq_some_iff.1 hv).1]
 exact hv)⟩
theorem rdC {ρ:PH} {b:Nat} {vs:List Value} {v:Value} (h:RdN ρ b 0 vs) (i:Nat) (e:vs[i]?=some v:=by rfl):rdc ρ b i=some v:=by
 have:=h i v e
 rwa [Nat.zero_add] at this
structure Wg (G:Prop):Prop where
  p:G
theorem Aa {J G:Prop} (g:G) (h:Wg G→J:=by intro g;refine AC ?_;refine AA ?_;exact g.1):J:=h ⟨g⟩
theorem Aaa {J G:Prop} (g:G) (h:Wg G→J:=by intro g;refine AD ?_;refine AE ?_;exact g.1):J:=h ⟨g⟩
theorem Aab {J G:Prop} (g:G) (h:Wg G→J:=by intro g;refine AH rfl rfl rfl ?_;refine AH rfl rfl rfl ?_;exact g.1):J:=h ⟨g⟩
theorem Aac {J G:Prop} (g:G) (h:Wg G→J:=by intro g;refine Aa ?_;refine AB ?_;exact g.1):J:=h ⟨g⟩
theorem Aad {J G:Prop} (g:G) (h:Wg G→J:=by intro g;refine AG ?_;refine AF ?_;exact g.1):J:=h ⟨g⟩
theorem Aae {J G:Prop} (g:G) (h:Wg G→J:=by intro g;refine AS rfl rfl rfl rfl rfl ?_;refine AS rfl rfl rfl rfl rfl ?_;exact g.1):J:=h ⟨g⟩
theorem Aaf {J G:Prop} (g:G) (h:Wg G→J:=by intro g;refine AE ?_;refine AK rfl ?_;exact g.1):J:=h ⟨g⟩
theorem Aag {J G:Prop} (g:G) (h:Wg G→J:=by intro g;refine AE ?_;refine AL rfl ?_;exact g.1):J:=h ⟨g⟩
theorem Aah {J G:Prop} (g:G) (h:Wg G→J:=by intro g;refine AC ?_;refine Aac ?_;exact g.1):J:=h ⟨g⟩
theorem Aai {J G:Prop} (g:G) (h:Wg G→J:=by intro g;refine Aa ?_;refine Aaa ?_;exact g.1):J:=h ⟨g⟩
theorem Aaj {J G:Prop} (g:G) (h:Wg G→J:=by intro g;refine AB ?_;refine Aad ?_;exact g.1):J:=h ⟨g⟩
theorem Aak {J G:Prop} (g:G) (h:Wg G→J:=by intro g;refine Aaf ?_;refine AJ ?_;exact g.1):J:=h ⟨g⟩
theorem Aal {J G:Prop} (g:G) (h:Wg G→J:=by intro g;refine AD ?_;refine Aaa ?_;exact g.1):J:=h ⟨g⟩
theorem Aam {J G:Prop} (g:G) (h:Wg G→J:=by intro g;refine Aab ?_;refine AH rfl rfl rfl ?_;exact g.1):J:=h ⟨g⟩
theorem Aan {J G:Prop} (g:G) (h:Wg G→J:=by intro g;refine AI ?_;refine AI ?_;exact g.1):J:=h ⟨g⟩
theorem Aao {J G:Prop} (g:G) (h:Wg G→J:=by intro g;refine AB ?_;refine AB ?_;exact g.1):J:=h ⟨g⟩
theorem Aap {J G:Prop} (g:G) (h:Wg G→J:=by intro g;refine AC ?_;refine AM ?_;exact g.1):J:=h ⟨g⟩
theorem Aaq {J G:Prop} (g:G) (h:Wg G→J:=by intro g;refine AJ ?_;refine Aap ?_;exact g.1):J:=h ⟨g⟩
theorem Aar {J G:Prop} (g:G) (h:Wg G→J:=by intro g;refine A2 ?_;refine AA ?_;exact g.1):J:=h ⟨g⟩
theorem Aas {J G:Prop} (g:G) (h:Wg G→J:=by intro g;refine Aa ?_;refine Aad ?_;exact g.1):J:=h ⟨g⟩
theorem Aat {J G:Prop} (g:G) (h:Wg G→J:=by intro g;refine AE ?_;refine AC ?_;exact g.1):J:=h ⟨g⟩
theorem Aau {J G:Prop} (g:G) (h:Wg G→J:=by intro g;refine AX ?_;refine AQ ?_;exact g.1):J:=h ⟨g⟩
theorem Aav {J G:Prop} (g:G) (h:Wg G→J:=by intro g;refine Aah ?_;refine AB ?_;exact g.1):J:=h ⟨g⟩
theorem Aaw {J G:Prop} (g:G) (h:Wg G→J:=by intro g;refine AB ?_;refine AE ?_;exact g.1):J:=h ⟨g⟩
theorem Aax {J G:Prop} (g:G) (h:Wg G→J:=by intro g;refine Aar ?_;refine AB ?_;exact g.1):J:=h ⟨g⟩
theorem Aay {J G:Prop} (g:G) (h:Wg G→J:=by intro g;refine Aac ?_;refine AB ?_;exact g.1):J:=h ⟨g⟩
theorem Aaz {J G:Prop} (g:G) (h:Wg G→J:=by intro g;refine A9 ?_;refine Aaa ?_;exact g.1):J:=h ⟨g⟩
theorem Aa0 {J G:Prop} (g:G) (h:Wg G→J:=by intro g;refine AN ?_;refine Aaj ?_;exact g.1):J:=h ⟨g⟩
theorem Aa1 {J G:Prop} (g:G) (h:Wg G→J:=by intro g;refine Aag ?_;refine Aaq ?_;exact g.1):J:=h ⟨g⟩
theorem Aa2 {J G:Prop} (g:G) (h:Wg G→J:=by intro g;refine Aax ?_;refine Aaz ?_;exact g.1):J:=h ⟨g⟩
theorem Aa3 {J G:Prop} (g:G) (h:Wg G→J:=by intro g;refine AK rfl ?_;refine A8 rfl ?_;exact g.1):J:=h ⟨g⟩
theorem Aa4 {J G:Prop} (g:G) (h:Wg G→J:=by intro g;refine AB ?_;refine Aab ?_;exact g.1):J:=h ⟨g⟩
theorem Aa5 {J G:Prop} (g:G) (h:Wg G→J:=by intro g;refine Aav ?_;refine AU ?_;exact g.1):J:=h ⟨g⟩
theorem Aa6 {J G:Prop} (g:G) (h:Wg G→J:=by intro g;refine Aat ?_;refine AL rfl ?_;exact g.1):J:=h ⟨g⟩
theorem Aa7 {J G:Prop} (g:G) (h:Wg G→J:=by intro g;refine Aaf ?_;refine A8 rfl ?_;exact g.1):J:=h ⟨g⟩
theorem Aa8 {J G:Prop} (g:G) (h:Wg G→J:=by intro g;refine AP ?_;refine AP ?_;exact g.1):J:=h ⟨g⟩
theorem Aa9 {J G:Prop} (g:G) (h:Wg G→J:=by intro g;refine BD ?_;refine Aa1 ?_;exact g.1):J:=h ⟨g⟩
theorem Ab {J G:Prop} (g:G) (h:Wg G→J:=by intro g;refine AB ?_;refine Aa8 ?_;exact g.1):J:=h ⟨g⟩
theorem Aba {J G:Prop} (g:G) (h:Wg G→J:=by intro g;refine Aag ?_;refine Aai ?_;exact g.1):J:=h ⟨g⟩
theorem Abb {J G:Prop} (g:G) (h:Wg G→J:=by intro g;refine Aae ?_;refine Aae ?_;exact g.1):J:=h ⟨g⟩
theorem Abd {J G:Prop} (g:G) (h:Wg G→J:=by intro g;refine AK rfl ?_;refine AJ ?_;exact g.1):J:=h ⟨g⟩
theorem Abe {J G:Prop} (g:G) (h:Wg G→J:=by intro g;refine A9 ?_;refine Aaw ?_;exact g.1):J:=h ⟨g⟩
theorem Abf {J G:Prop} (g:G) (h:Wg G→J:=by intro g;refine Aar ?_;refine Abe ?_;exact g.1):J:=h ⟨g⟩
theorem Abg {J G:Prop} (g:G) (h:Wg G→J:=by intro g;refine Aah ?_;refine AU ?_;exact g.1):J:=h ⟨g⟩
theorem Abh {J G:Prop} (g:G) (h:Wg G→J:=by intro g;refine BK ?_;refine Aak ?_;exact g.1):J:=h ⟨g⟩
theorem Abi {J G:Prop} (g:G) (h:Wg G→J:=by intro g;refine BD ?_;refine Aa6 ?_;refine Aaq ?_;exact g.1):J:=h ⟨g⟩
theorem Abj {J G:Prop} (g:G) (h:Wg G→J:=by intro g;refine Aaj ?_;refine Aad ?_;exact g.1):J:=h ⟨g⟩
theorem Abk {J G:Prop} (g:G) (h:Wg G→J:=by intro g;refine Aa ?_;refine Abi ?_;exact g.1):J:=h ⟨g⟩
theorem Abl {J G:Prop} (g:G) (h:Wg G→J:=by intro g;refine Aaa ?_;refine AC ?_;exact g.1):J:=h ⟨g⟩
theorem Abm {J G:Prop} (g:G) (h:Wg G→J:=by intro g;refine A5 ?_;refine AV ?_;exact g.1):J:=h ⟨g⟩
theorem Abn {J G:Prop} (g:G) (h:Wg G→J:=by intro g;refine AN ?_;refine Aak ?_;exact g.1):J:=h ⟨g⟩
theorem Abo {J G:Prop} (g:G) (h:Wg G→J:=by intro g;refine Aa5 ?_;refine Aa9 ?_;exact g.1):J:=h ⟨g⟩
theorem Abp {J G:Prop} (g:G) (h:Wg G→J:=by intro g;refine Aao ?_;refine AB ?_;exact g.1):J:=h ⟨g⟩
theorem Abq {J G:Prop} (g:G) (h:Wg G→J:=by intro g;refine AF ?_;refine AB ?_;exact g.1):J:=h ⟨g⟩
theorem Abr {J G:Prop} (g:G) (h:Wg G→J:=by intro g;refine Aaa ?_;refine Aac ?_;exact g.1):J:=h ⟨g⟩
theorem Abs {J G:Prop} (g:G) (h:Wg G→J:=by intro g;refine Aa4 ?_;refine Aab ?_;exact g.1):J:=h ⟨g⟩
theorem Abt {J G:Prop} (g:G) (h:Wg G→J:=by intro g;refine Aa ?_;refine AV ?_;exact g.1):J:=h ⟨g⟩
theorem Abu {J G:Prop} (g:G) (h:Wg G→J:=by intro g;refine Aat ?_;refine Aa3 ?_;exact g.1):J:=h ⟨g⟩
theorem Abv {J G:Prop} (g:G) (h:Wg G→J:=by intro g;refine A0 ?_;refine Aa7 ?_;exact g.1):J:=h ⟨g⟩
theorem Abw {J G:Prop} (g:G) (h:Wg G→J:=by intro g;refine Aai ?_;refine AM ?_;exact g.1):J:=h ⟨g⟩
theorem Abx {J G:Prop} (g:G) (h:Wg G→J:=by intro g;refine Aam ?_;refine AR ?_;exact g.1):J:=h ⟨g⟩
theorem Aby {J G:Prop} (g:G) (h:Wg G→J:=by intro g;refine B6 ?_;refine AQ ?_;exact g.1):J:=h ⟨g⟩
theorem Abz {J G:Prop} (g:G) (h:Wg G→J:=by intro g;refine A0 ?_;refine Abu ?_;exact g.1):J:=h ⟨g⟩
theorem Ab0 {J G:Prop} (g:G) (h:Wg G→J:=by intro g;refine Ab ?_;refine Aal ?_;exact g.1):J:=h ⟨g⟩
theorem Ab1 {J G:Prop} (g:G) (h:Wg G→J:=by intro g;refine Aan ?_;refine BB ?_;exact g.1):J:=h ⟨g⟩
theorem Ab2 {J G:Prop} (g:G) (h:Wg G→J:=by intro g;refine A5 ?_;refine B8 ?_;exact g.1):J:=h ⟨g⟩
theorem Ab3 {J G:Prop} (g:G) (h:Wg G→J:=by intro g;refine Aan ?_;refine AI ?_;exact g.1):J:=h ⟨g⟩
theorem Ab4 {J G:Prop} (g:G) (h:Wg G→J:=by intro g;refine Aas ?_;refine Aad ?_;exact g.1):J:=h ⟨g⟩
theorem Ab5 {J G:Prop} (g:G) (h:Wg G→J:=by intro g;refine A7 ?_;refine AL rfl ?_;exact g.1):J:=h ⟨g⟩
theorem Ab6 {J G:Prop} (g:G) (h:Wg G→J:=by intro g;refine Aaw ?_;refine AM ?_;exact g.1):J:=h ⟨g⟩
theorem Ab7 {J G:Prop} (g:G) (h:Wg G→J:=by intro g;refine BP ?_;refine Aa0 ?_;exact g.1):J:=h ⟨g⟩
theorem Ab8 {J G:Prop} (g:G) (h:Wg G→J:=by intro g;refine A7 ?_;refine Abd ?_;exact g.1):J:=h ⟨g⟩
theorem Ab9 {J G:Prop} (g:G) (h:Wg G→J:=by intro g;refine AG ?_;refine Aad ?_;exact g.1):J:=h ⟨g⟩
theorem Ac {J G:Prop} (g:G) (h:Wg G→J:=by intro g;refine BX ?_;refine AQ ?_;exact g.1):J:=h ⟨g⟩
theorem Aca {J G:Prop} (g:G) (h:Wg G→J:=by intro g;refine Aac ?_;refine Aaa ?_;exact g.1):J:=h ⟨g⟩
theorem Acb {J G:Prop} (g:G) (h:Wg G→J:=by intro g;refine BT ?_;refine AF ?_;exact g.1):J:=h ⟨g⟩
theorem Acc {J G:Prop} (g:G) (h:Wg G→J:=by intro g;refine A0 ?_;refine Aa0 ?_;exact g.1):J:=h ⟨g⟩
theorem Acd {J G:Prop} (g:G) (h:Wg G→J:=by intro g;refine Aa ?_;refine Abz ?_;exact g.1):J:=h ⟨g⟩
theorem Ace {J G:Prop} (g:G) (h:Wg G→J:=by intro g;refine Abk ?_;refine Aa ?_;exact g.1):J:=h ⟨g⟩
theorem Acf {J G:Prop} (g:G) (h:Wg G→J:=by intro g;refine Ab2 ?_;refine AF ?_;exact g.1):J:=h ⟨g⟩
theorem Acg {J G:Prop} (g:G) (h:Wg G→J:=by intro g;refine Aag ?_;refine Aa ?_;exact g.1):J:=h ⟨g⟩
theorem Ach {J G:Prop} (g:G) (h:Wg G→J:=by intro g;refine Aas ?_;refine AB ?_;exact g.1):J:=h ⟨g⟩
theorem Aci {J G:Prop} (g:G) (h:Wg G→J:=by intro g;refine Aa5 ?_;refine Abv ?_;exact g.1):J:=h ⟨g⟩
theorem Acj {J G:Prop} (g:G) (h:Wg G→J:=by intro g;refine AB ?_;refine Ab7 ?_;exact g.1):J:=h ⟨g⟩
theorem Ack {J G:Prop} (g:G) (h:Wg G→J:=by intro g;refine Ab3 ?_;refine BB ?_;exact g.1):J:=h ⟨g⟩
theorem Acl {J G:Prop} (g:G) (h:Wg G→J:=by intro g;refine Aau ?_;refine AI ?_;exact g.1):J:=h ⟨g⟩
theorem Acm {J G:Prop} (g:G) (h:Wg G→J:=by intro g;refine Abg ?_;refine Ab6 ?_;exact g.1):J:=h ⟨g⟩
theorem Acn {J G:Prop} (g:G) (h:Wg G→J:=by intro g;refine Abb ?_;refine Abb ?_;exact g.1):J:=h ⟨g⟩
theorem Aco {J G:Prop} (g:G) (h:Wg G→J:=by intro g;refine CD ?_;refine AQ ?_;exact g.1):J:=h ⟨g⟩
theorem Acp {J G:Prop} (g:G) (h:Wg G→J:=by intro g;refine AC ?_;refine AC ?_;exact g.1):J:=h ⟨g⟩
theorem Acq {J G:Prop} (g:G) (h:Wg G→J:=by intro g;refine AB ?_;refine Abx ?_;exact g.1):J:=h ⟨g⟩
theorem Acr {J G:Prop} (g:G) (h:Wg G→J:=by intro g;refine Aas ?_;refine AU ?_;exact g.1):J:=h ⟨g⟩
theorem Acs {J G:Prop} (g:G) (h:Wg G→J:=by intro g;refine AR ?_;refine Aaa ?_;exact g.1):J:=h ⟨g⟩
theorem Acu {J G:Prop} (g:G) (h:Wg G→J:=by intro g;refine Abt ?_;refine AV ?_;exact g.1):J:=h ⟨g⟩
theorem Acv {J G:Prop} (g:G) (h:Wg G→J:=by intro g;refine AC ?_;refine Abw ?_;exact g.1):J:=h ⟨g⟩
theorem Acw {J G:Prop} (g:G) (h:Wg G→J:=by intro g;refine BN ?_;refine Aak ?_;exact g.1):J:=h ⟨g⟩
theorem Acx {J G:Prop} (g:G) (h:Wg G→J:=by intro g;refine Ab9 ?_;refine AU ?_;exact g.1):J:=h ⟨g⟩
theorem Acy {J G:Prop} (g:G) (h:Wg G→J:=by intro g;refine AD ?_;refine Aal ?_;exact g.1):J:=h ⟨g⟩
theorem Acz {J G:Prop} (g:G) (h:Wg G→J:=by intro g;refine Aa ?_;refine AF ?_;exact g.1):J:=h ⟨g⟩
theorem Ac0 {J G:Prop} (g:G) (h:Wg G→J:=by intro g;refine Aag ?_;refine Aac ?_;exact g.1):J:=h ⟨g⟩
theorem Ac1 {J G:Prop} (g:G) (h:Wg G→J:=by intro g;refine Aam ?_;refine AN ?_;exact g.1):J:=h ⟨g⟩
theorem Ac2 {J G:Prop} (g:G) (h:Wg G→J:=by intro g;refine AI ?_;refine Acn ?_;exact g.1):J:=h ⟨g⟩
theorem Ac3 {J G:Prop} (g:G) (h:Wg G→J:=by intro g;refine AA ?_;refine Aao ?_;exact g.1):J:=h ⟨g⟩
theorem Ac4 {J G:Prop} (g:G) (h:Wg G→J:=by intro g;refine Ace ?_;refine Abm ?_;exact g.1):J:=h ⟨g⟩
theorem Ac5 {J G:Prop} (g:G) (h:Wg G→J:=by intro g;refine Acc ?_;refine Acj ?_;exact g.1):J:=h ⟨g⟩
theorem Ac6 {J G:Prop} (g:G) (h:Wg G→J:=by intro g;refine Abk ?_;refine Aac ?_;exact g.1):J:=h ⟨g⟩
theorem Ac7 {J G:Prop} (g:G) (h:Wg G→J:=by intro g;refine Abo ?_;refine Aay ?_;exact g.1):J:=h ⟨g⟩
theorem Ac8 {J G:Prop} (g:G) (h:Wg G→J:=by intro g;refine AA ?_;refine Abp ?_;exact g.1):J:=h ⟨g⟩
theorem Ac9 {J G:Prop} (g:G) (h:Wg G→J:=by intro g;refine Aah ?_;refine Aad ?_;exact g.1):J:=h ⟨g⟩
theorem Ad {J G:Prop} (g:G) (h:Wg G→J:=by intro g;refine AS rfl rfl rfl rfl rfl ?_;refine BM ?_;exact g.1):J:=h ⟨g⟩
theorem Ada {J G:Prop} (g:G) (h:Wg G→J:=by intro g;refine AB ?_;refine AU ?_;exact g.1):J:=h ⟨g⟩
theorem Adb {J G:Prop} (g:G) (h:Wg G→J:=by intro g;refine Aaa ?_;refine Aa2 ?_;exact g.1):J:=h ⟨g⟩
theorem Adc {J G:Prop} (g:G) (h:Wg G→J:=by intro g;refine A5 ?_;refine CR ?_;exact g.1):J:=h ⟨g⟩
theorem Add {J G:Prop} (g:G) (h:Wg G→J:=by intro g;refine BQ ?_;refine BB ?_;exact g.1):J:=h ⟨g⟩
theorem Ade {J G:Prop} (g:G) (h:Wg G→J:=by intro g;refine AA ?_;refine AB ?_;exact g.1):J:=h ⟨g⟩
theorem Adf {J G:Prop} (g:G) (h:Wg G→J:=by intro g;refine BR ?_;refine AF ?_;exact g.1):J:=h ⟨g⟩
theorem Adg {J G:Prop} (g:G) (h:Wg G→J:=by intro g;refine BG ?_;refine Ab5 ?_;exact g.1):J:=h ⟨g⟩
theorem Adh {J G:Prop} (g:G) (h:Wg G→J:=by intro g;refine Abs ?_;refine Aab ?_;exact g.1):J:=h ⟨g⟩
theorem Adi {J G:Prop} (g:G) (h:Wg G→J:=by intro g;refine Ab0 ?_;refine Aah ?_;exact g.1):J:=h ⟨g⟩
theorem Adj {J G:Prop} (g:G) (h:Wg G→J:=by intro g;refine Aan ?_;refine Aco ?_;exact g.1):J:=h ⟨g⟩
theorem Adk {J G:Prop} (g:G) (h:Wg G→J:=by intro g;refine A0 ?_;refine Aaj ?_;exact g.1):J:=h ⟨g⟩
theorem Adl {J G:Prop} (g:G) (h:Wg G→J:=by intro g;refine Aau ?_;refine Aau ?_;exact g.1):J:=h ⟨g⟩
theorem Adm {J G:Prop} (g:G) (h:Wg G→J:=by intro g;refine C3 ?_;refine A7 ?_;exact g.1):J:=h ⟨g⟩
theorem Adn {J G:Prop} (g:G) (h:Wg G→J:=by intro g;refine Ab0 ?_;refine Aac ?_;exact g.1):J:=h ⟨g⟩
theorem Ado {J G:Prop} (g:G) (h:Wg G→J:=by intro g;refine Ab1 ?_;refine Aby ?_;exact g.1):J:=h ⟨g⟩
theorem Adp {J G:Prop} (g:G) (h:Wg G→J:=by intro g;refine Aan ?_;refine Add ?_;exact g.1):J:=h ⟨g⟩
theorem Adq {J G:Prop} (g:G) (h:Wg G→J:=by intro g;refine Ac ?_;refine Aau ?_;exact g.1):J:=h ⟨g⟩
theorem Adr {J G:Prop} (g:G) (h:Wg G→J:=by intro g;refine B4 ?_;refine A7 ?_;exact g.1):J:=h ⟨g⟩
theorem Ads {J G:Prop} (g:G) (h:Wg G→J:=by intro g;refine Aaa ?_;refine Acr ?_;exact g.1):J:=h ⟨g⟩
theorem Adt {J G:Prop} (g:G) (h:Wg G→J:=by intro g;refine Abl ?_;refine Abw ?_;exact g.1):J:=h ⟨g⟩
theorem Adu {J G:Prop} (g:G) (h:Wg G→J:=by intro g;refine CE ?_;refine Aak ?_;exact g.1):J:=h ⟨g⟩
theorem Adv {J G:Prop} (g:G) (h:Wg G→J:=by intro g;refine CB ?_;refine Aaa ?_;exact g.1):J:=h ⟨g⟩
theorem Adw {J G:Prop} (g:G) (h:Wg G→J:=by intro g;refine AR ?_;refine Aaj ?_;exact g.1):J:=h ⟨g⟩
theorem Adx {J G:Prop} (g:G) (h:Wg G→J:=by intro g;refine AN ?_;refine Aaa ?_;exact g.1):J:=h ⟨g⟩
theorem Ady {J G:Prop} (g:G) (h:Wg G→J:=by intro g;refine CM ?_;refine AQ ?_;exact g.1):J:=h ⟨g⟩
theorem Adz {J G:Prop} (g:G) (h:Wg G→J:=by intro g;refine Aaa ?_;refine Aah ?_;exact g.1):J:=h ⟨g⟩
theorem Ad0 {J G:Prop} (g:G) (h:Wg G→J:=by intro g;refine Aao ?_;refine Aao ?_;exact g.1):J:=h ⟨g⟩
theorem Ad1 {J G:Prop} (g:G) (h:Wg G→J:=by intro g;refine Ack ?_;refine Aby ?_;exact g.1):J:=h ⟨g⟩
theorem Ad2 {J G:Prop} (g:G) (h:Wg G→J:=by intro g;refine Aa4 ?_;refine Abx ?_;exact g.1):J:=h ⟨g⟩
theorem Ad3 {J G:Prop} (g:G) (h:Wg G→J:=by intro g;refine Ac5 ?_;refine Aad ?_;exact g.1):J:=h ⟨g⟩
theorem Ad4 {J G:Prop} (g:G) (h:Wg G→J:=by intro g;refine AR ?_;refine Abj ?_;exact g.1):J:=h ⟨g⟩
theorem Ad5 {J G:Prop} (g:G) (h:Wg G→J:=by intro g;refine Aa ?_;refine Aal ?_;exact g.1):J:=h ⟨g⟩
theorem Ad6 {J G:Prop} (g:G) (h:Wg G→J:=by intro g;refine Aai ?_;refine Acm ?_;exact g.1):J:=h ⟨g⟩
theorem Ad7 {J G:Prop} (g:G) (h:Wg G→J:=by intro g;refine Aam ?_;refine Abn ?_;exact g.1):J:=h ⟨g⟩
theorem Ad8 {J G:Prop} (g:G) (h:Wg G→J:=by intro g;refine Abs ?_;refine AR ?_;exact g.1):J:=h ⟨g⟩
theorem Ad9 {J G:Prop} (g:G) (h:Wg G→J:=by intro g;refine Abo ?_;refine AC ?_;exact g.1):J:=h ⟨g⟩
theorem Ae {J G:Prop} (g:G) (h:Wg G→J:=by intro g;refine Ab1 ?_;refine BJ ?_;exact g.1):J:=h ⟨g⟩
theorem Aea {J G:Prop} (g:G) (h:Wg G→J:=by intro g;refine Aay ?_;refine AU ?_;exact g.1):J:=h ⟨g⟩
theorem Aeb {J G:Prop} (g:G) (h:Wg G→J:=by intro g;refine A0 ?_;refine Aak ?_;exact g.1):J:=h ⟨g⟩
theorem Aec {J G:Prop} (g:G) (h:Wg G→J:=by intro g;refine BE ?_;refine Aau ?_;exact g.1):J:=h ⟨g⟩
theorem Aed {J G:Prop} (g:G) (h:Wg G→J:=by intro g;refine Ace ?_;refine Acb ?_;exact g.1):J:=h ⟨g⟩
theorem Aee {J G:Prop} (g:G) (h:Wg G→J:=by intro g;refine Ab8 ?_;refine Aa2 ?_;exact g.1):J:=h ⟨g⟩
theorem Aef {J G:Prop} (g:G) (h:Wg G→J:=by intro g;refine Aaa ?_;refine Ab4 ?_;exact g.1):J:=h ⟨g⟩
theorem Aeg {J G:Prop} (g:G) (h:Wg G→J:=by intro g;refine Ac0 ?_;refine Aal ?_;exact g.1):J:=h ⟨g⟩
theorem Aeh {J G:Prop} (g:G) (h:Wg G→J:=by intro g;refine AB ?_;refine Ac1 ?_;exact g.1):J:=h ⟨g⟩
theorem Aei {J G:Prop} (g:G) (h:Wg G→J:=by intro g;refine B7 ?_;refine Abn ?_;exact g.1):J:=h ⟨g⟩
theorem Aej {J G:Prop} (g:G) (h:Wg G→J:=by intro g;refine AE ?_;refine Aac ?_;exact g.1):J:=h ⟨g⟩
theorem Aek {J G:Prop} (g:G) (h:Wg G→J:=by intro g;refine Abh ?_;refine AC ?_;exact g.1):J:=h ⟨g⟩
theorem Ael {J G:Prop} (g:G) (h:Wg G→J:=by intro g;refine BP ?_;refine Abn ?_;exact g.1):J:=h ⟨g⟩
theorem Aem {J G:Prop} (g:G) (h:Wg G→J:=by intro g;refine AR ?_;refine Aak ?_;exact g.1):J:=h ⟨g⟩
theorem Aen {J G:Prop} (g:G) (h:Wg G→J:=by intro g;refine A0 ?_;refine Abj ?_;exact g.1):J:=h ⟨g⟩
theorem Aeo {J G:Prop} (g:G) (h:Wg G→J:=by intro g;refine AN ?_;refine Aba ?_;exact g.1):J:=h ⟨g⟩
theorem Aep {J G:Prop} (g:G) (h:Wg G→J:=by intro g;refine Aa ?_;refine Ab9 ?_;exact g.1):J:=h ⟨g⟩
theorem Aeq {J G:Prop} (g:G) (h:Wg G→J:=by intro g;refine Ad3 ?_;refine CE ?_;exact g.1):J:=h ⟨g⟩
theorem Aer {J G:Prop} (g:G) (h:Wg G→J:=by intro g;refine Adc ?_;refine Abq ?_;exact g.1):J:=h ⟨g⟩
theorem Aes {J G:Prop} (g:G) (h:Wg G→J:=by intro g;refine Abl ?_;refine Aas ?_;exact g.1):J:=h ⟨g⟩
theorem Aeu {J G:Prop} (g:G) (h:Wg G→J:=by intro g;refine Aep ?_;refine Aad ?_;refine Abm ?_;exact g.1):J:=h ⟨g⟩
theorem Aev {J G:Prop} (g:G) (h:Wg G→J:=by intro g;refine Aac ?_;refine Aao ?_;exact g.1):J:=h ⟨g⟩
theorem Aew {J G:Prop} (g:G) (h:Wg G→J:=by intro g;refine Abg ?_;refine Ada ?_;exact g.1):J:=h ⟨g⟩
theorem Aex {J G:Prop} (g:G) (h:Wg G→J:=by intro g;refine Aa ?_;refine Abq ?_;exact g.1):J:=h ⟨g⟩
theorem Aey {J G:Prop} (g:G) (h:Wg G→J:=by intro g;refine Ach ?_;refine CQ ?_;exact g.1):J:=h ⟨g⟩
theorem Aez {J G:Prop} (g:G) (h:Wg G→J:=by intro g;refine AR ?_;refine Aag ?_;exact g.1):J:=h ⟨g⟩
theorem Ae0 {J G:Prop} (g:G) (h:Wg G→J:=by intro g;refine CJ ?_;refine Acg ?_;exact g.1):J:=h ⟨g⟩
theorem Ae1 {J G:Prop} (g:G) (h:Wg G→J:=by intro g;refine BJ ?_;refine Aan ?_;exact g.1):J:=h ⟨g⟩
theorem Ae2 {J G:Prop} (g:G) (h:Wg G→J:=by intro g;refine Aan ?_;refine CZ ?_;exact g.1):J:=h ⟨g⟩
theorem Ae3 {J G:Prop} (g:G) (h:Wg G→J:=by intro g;refine BE ?_;refine AX ?_;exact g.1):J:=h ⟨g⟩
theorem Ae4 {J G:Prop} (g:G) (h:Wg G→J:=by intro g;refine Aaa ?_;refine Aay ?_;exact g.1):J:=h ⟨g⟩
theorem Ae5 {J G:Prop} (g:G) (h:Wg G→J:=by intro g;refine Ab2 ?_;refine Abq ?_;exact g.1):J:=h ⟨g⟩
theorem Ae6 {J G:Prop} (g:G) (h:Wg G→J:=by intro g;refine Acq ?_;refine Aba ?_;exact g.1):J:=h ⟨g⟩
theorem Ae7 {J G:Prop} (g:G) (h:Wg G→J:=by intro g;refine Ade ?_;refine Aaz ?_;exact g.1):J:=h ⟨g⟩
theorem Ae8 {J G:Prop} (g:G) (h:Wg G→J:=by intro g;refine AJ ?_;refine AM ?_;exact g.1):J:=h ⟨g⟩
theorem Ae9 {J G:Prop} (g:G) (h:Wg G→J:=by intro g;refine AE ?_;refine Abf ?_;exact g.1):J:=h ⟨g⟩
theorem Af {J G:Prop} (g:G) (h:Wg G→J:=by intro g;refine B7 ?_;refine Aak ?_;exact g.1):J:=h ⟨g⟩
theorem Afa {J G:Prop} (g:G) (h:Wg G→J:=by intro g;refine Aaa ?_;refine Aa ?_;exact g.1):J:=h ⟨g⟩
theorem Afb {J G:Prop} (g:G) (h:Wg G→J:=by intro g;refine Ac6 ?_;refine Abm ?_;exact g.1):J:=h ⟨g⟩
theorem Afc {J G:Prop} (g:G) (h:Wg G→J:=by intro g;refine Aad ?_;refine Aad ?_;exact g.1):J:=h ⟨g⟩
theorem Afd {J G:Prop} (g:G) (h:Wg G→J:=by intro g;refine Abp ?_;refine Ae5 ?_;exact g.1):J:=h ⟨g⟩
theorem Afe {J G:Prop} (g:G) (h:Wg G→J:=by intro g;refine Aa4 ?_;refine Ac1 ?_;exact g.1):J:=h ⟨g⟩
theorem Aff {J G:Prop} (g:G) (h:Wg G→J:=by intro g;refine Aai ?_;refine Aah ?_;exact g.1):J:=h ⟨g⟩
theorem Afg {J G:Prop} (g:G) (h:Wg G→J:=by intro g;refine Aat ?_;refine Ab4 ?_;exact g.1):J:=h ⟨g⟩
theorem Afh {J G:Prop} (g:G) (h:Wg G→J:=by intro g;refine Aac ?_;refine Aal ?_;exact g.1):J:=h ⟨g⟩
theorem Afi {J G:Prop} (g:G) (h:Wg G→J:=by intro g;refine Ads ?_;refine Aes ?_;exact g.1):J:=h ⟨g⟩
theorem Afj {J G:Prop} (g:G) (h:Wg G→J:=by intro g;refine AE ?_;refine AA ?_;exact g.1):J:=h ⟨g⟩
theorem Afk {J G:Prop} (g:G) (h:Wg G→J:=by intro g;refine AI ?_;refine DY ?_;exact g.1):J:=h ⟨g⟩
theorem Afl {J G:Prop} (g:G) (h:Wg G→J:=by intro g;refine AU ?_;refine Ab6 ?_;exact g.1):J:=h ⟨g⟩
theorem Afm {J G:Prop} (g:G) (h:Wg G→J:=by intro g;refine Abt ?_;refine AB ?_;exact g.1):J:=h ⟨g⟩
theorem Afn {J G:Prop} (g:G) (h:Wg G→J:=by intro g;refine BR ?_;refine Abq ?_;exact g.1):J:=h ⟨g⟩
theorem Afo {J G:Prop} (g:G) (h:Wg G→J:=by intro g;refine BN ?_;refine Acg ?_;exact g.1):J:=h ⟨g⟩
theorem Afp {J G:Prop} (g:G) (h:Wg G→J:=by intro g;refine Adc ?_;refine AF ?_;exact g.1):J:=h ⟨g⟩
theorem Afq {J G:Prop} (g:G) (h:Wg G→J:=by intro g;refine BK ?_;refine Aaj ?_;exact g.1):J:=h ⟨g⟩
theorem Afr {J G:Prop} (g:G) (h:Wg G→J:=by intro g;refine Aas ?_;refine CX ?_;exact g.1):J:=h ⟨g⟩
theorem Afs {J G:Prop} (g:G) (h:Wg G→J:=by intro g;refine Ad7 ?_;refine Aa2 ?_;exact g.1):J:=h ⟨g⟩
theorem Aft {J G:Prop} (g:G) (h:Wg G→J:=by intro g;refine Ad2 ?_;refine Aba ?_;exact g.1):J:=h ⟨g⟩
theorem Afu {J G:Prop} (g:G) (h:Wg G→J:=by intro g;refine Adk ?_;refine Acj ?_;exact g.1):J:=h ⟨g⟩
theorem Afv {J G:Prop} (g:G) (h:Wg G→J:=by intro g;refine BZ ?_;refine BZ ?_;exact g.1):J:=h ⟨g⟩
theorem Afw {J G:Prop} (g:G) (h:Wg G→J:=by intro g;refine AA ?_;refine Abz ?_;exact g.1):J:=h ⟨g⟩
theorem Afx {J G:Prop} (g:G) (h:Wg G→J:=by intro g;refine CJ ?_;refine Aag ?_;exact g.1):J:=h ⟨g⟩
theorem Afy {J G:Prop} (g:G) (h:Wg G→J:=by intro g;refine AI ?_;refine Aau ?_;exact g.1):J:=h ⟨g⟩
theorem Afz {J G:Prop} (g:G) (h:Wg G→J:=by intro g;refine CY ?_;refine Aau ?_;exact g.1):J:=h ⟨g⟩
theorem Af0 {J G:Prop} (g:G) (h:Wg G→J:=by intro g;refine CG ?_;refine Aad ?_;exact g.1):J:=h ⟨g⟩
theorem Af1 {J G:Prop} (g:G) (h:Wg G→J:=by intro g;refine A7 ?_;refine Aa3 ?_;exact g.1):J:=h ⟨g⟩
theorem Af2 {J G:Prop} (g:G) (h:Wg G→J:=by intro g;refine Aaa ?_;refine Acm ?_;exact g.1):J:=h ⟨g⟩
theorem Af3 {J G:Prop} (g:G) (h:Wg G→J:=by intro g;refine Ach ?_;refine Adu ?_;exact g.1):J:=h ⟨g⟩
theorem Af4 {J G:Prop} (g:G) (h:Wg G→J:=by intro g;refine Aaa ?_;refine Abf ?_;exact g.1):J:=h ⟨g⟩
theorem Af5 {J G:Prop} (g:G) (h:Wg G→J:=by intro g;refine Aai ?_;refine Acv ?_;exact g.1):J:=h ⟨g⟩
theorem Af6 {J G:Prop} (g:G) (h:Wg G→J:=by intro g;refine Ac7 ?_;refine Aer ?_;exact g.1):J:=h ⟨g⟩
theorem Af7 {J G:Prop} (g:G) (h:Wg G→J:=by intro g;refine Ac8 ?_;refine Acf ?_;exact g.1):J:=h ⟨g⟩
theorem Af8 {J G:Prop} (g:G) (h:Wg G→J:=by intro g;refine Ac2 ?_;refine Aae ?_;exact g.1):J:=h ⟨g⟩
theorem Af9 {J G:Prop} (g:G) (h:Wg G→J:=by intro g;refine Aat ?_;refine Aas ?_;exact g.1):J:=h ⟨g⟩
theorem Ag {J G:Prop} (g:G) (h:Wg G→J:=by intro g;refine Adp ?_;refine Aby ?_;exact g.1):J:=h ⟨g⟩
theorem Agb {J G:Prop} (g:G) (h:Wg G→J:=by intro g;refine Acx ?_;refine Ael ?_;refine Aeu ?_;exact g.1):J:=h ⟨g⟩
theorem Agc {J G:Prop} (g:G) (h:Wg G→J:=by intro g;refine Aah ?_;refine Aao ?_;exact g.1):J:=h ⟨g⟩
theorem Agd {J G:Prop} (g:G) (h:Wg G→J:=by intro g;refine Afq ?_;refine Ac5 ?_;exact g.1):J:=h ⟨g⟩
theorem Age {J G:Prop} (g:G) (h:Wg G→J:=by intro g;refine Afi ?_;refine Afu ?_;exact g.1):J:=h ⟨g⟩
theorem Agf {J G:Prop} (g:G) (h:Wg G→J:=by intro g;refine Aah ?_;refine Acx ?_;exact g.1):J:=h ⟨g⟩
theorem Agg {J G:Prop} (g:G) (h:Wg G→J:=by intro g;refine Ac7 ?_;refine Acf ?_;exact g.1):J:=h ⟨g⟩
theorem Agh {J G:Prop} (g:G) (h:Wg G→J:=by intro g;refine AG ?_;refine AV ?_;exact g.1):J:=h ⟨g⟩
theorem Agi {J G:Prop} (g:G) (h:Wg G→J:=by intro g;refine Aa9 ?_;refine AC ?_;exact g.1):J:=h ⟨g⟩
theorem Agj {J G:Prop} (g:G) (h:Wg G→J:=by intro g;refine Ack ?_;refine Ac ?_;exact g.1):J:=h ⟨g⟩
theorem Agk {J G:Prop} (g:G) (h:Wg G→J:=by intro g;refine Ab1 ?_;refine Ac ?_;exact g.1):J:=h ⟨g⟩
theorem Agl {J G:Prop} (g:G) (h:Wg G→J:=by intro g;refine BG ?_;refine Ab8 ?_;exact g.1):J:=h ⟨g⟩
theorem Agm {J G:Prop} (g:G) (h:Wg G→J:=by intro g;refine Aad ?_;refine CB ?_;exact g.1):J:=h ⟨g⟩
theorem Agn {J G:Prop} (g:G) (h:Wg G→J:=by intro g;refine Aai ?_;refine Ad6 ?_;exact g.1):J:=h ⟨g⟩
theorem Ago {J G:Prop} (g:G) (h:Wg G→J:=by intro g;refine Acd ?_;refine Aca ?_;exact g.1):J:=h ⟨g⟩
theorem Agp {J G:Prop} (g:G) (h:Wg G→J:=by intro g;refine Ad0 ?_;refine Acf ?_;exact g.1):J:=h ⟨g⟩
theorem Agq {J G:Prop} (g:G) (h:Wg G→J:=by intro g;refine Aem ?_;refine Aa2 ?_;exact g.1):J:=h ⟨g⟩
theorem Agr {J G:Prop} (g:G) (h:Wg G→J:=by intro g;refine Adg ?_;refine Aai ?_;exact g.1):J:=h ⟨g⟩
theorem Ags {J G:Prop} (g:G) (h:Wg G→J:=by intro g;refine Acq ?_;refine Ae6 ?_;exact g.1):J:=h ⟨g⟩
theorem Agt {J G:Prop} (g:G) (h:Wg G→J:=by intro g;refine Aew ?_;refine Abh ?_;exact g.1):J:=h ⟨g⟩
theorem Agu {J G:Prop} (g:G) (h:Wg G→J:=by intro g;refine Aax ?_;refine Adv ?_;exact g.1):J:=h ⟨g⟩
theorem Agw {J G:Prop} (g:G) (h:Wg G→J:=by intro g;refine Ack ?_;refine Adq ?_;exact g.1):J:=h ⟨g⟩
theorem Agx {J G:Prop} (g:G) (h:Wg G→J:=by intro g;refine Acy ?_;refine Aah ?_;exact g.1):J:=h ⟨g⟩
theorem Agy {J G:Prop} (g:G) (h:Wg G→J:=by intro g;refine DE ?_;refine A7 ?_;exact g.1):J:=h ⟨g⟩
theorem Agz {J G:Prop} (g:G) (h:Wg G→J:=by intro g;refine AE ?_;refine A2 ?_;exact g.1):J:=h ⟨g⟩
theorem Ag0 {J G:Prop} (g:G) (h:Wg G→J:=by intro g;refine CT ?_;refine Aeo ?_;exact g.1):J:=h ⟨g⟩
theorem Ag1 {J G:Prop} (g:G) (h:Wg G→J:=by intro g;refine CQ ?_;refine Aag ?_;exact g.1):J:=h ⟨g⟩
theorem Ag2 {J G:Prop} (g:G) (h:Wg G→J:=by intro g;refine BM ?_;refine Ab8 ?_;exact g.1):J:=h ⟨g⟩
theorem Ag3 {J G:Prop} (g:G) (h:Wg G→J:=by intro g;refine DP ?_;refine Ad1 ?_;exact g.1):J:=h ⟨g⟩
theorem Ag4 {J G:Prop} (g:G) (h:Wg G→J:=by intro g;refine Afz ?_;refine CY ?_;exact g.1):J:=h ⟨g⟩
theorem Ag5 {J G:Prop} (g:G) (h:Wg G→J:=by intro g;refine AE ?_;refine Aa2 ?_;exact g.1):J:=h ⟨g⟩
theorem Ag6 {J G:Prop} (g:G) (h:Wg G→J:=by intro g;refine CJ ?_;refine Aeg ?_;exact g.1):J:=h ⟨g⟩
theorem Ag7 {J G:Prop} (g:G) (h:Wg G→J:=by intro g;refine AI ?_;refine Ae1 ?_;exact g.1):J:=h ⟨g⟩
theorem Ag8 {J G:Prop} (g:G) (h:Wg G→J:=by intro g;refine BE ?_;refine Acl ?_;refine Aec ?_;exact g.1):J:=h ⟨g⟩
theorem Ag9 {J G:Prop} (g:G) (h:Wg G→J:=by intro g;refine AE ?_;refine DI rfl rfl ?_;exact g.1):J:=h ⟨g⟩
theorem Ah {J G:Prop} (g:G) (h:Wg G→J:=by intro g;refine Ab5 ?_;refine Aai ?_;exact g.1):J:=h ⟨g⟩
theorem Aha {J G:Prop} (g:G) (h:Wg G→J:=by intro g;refine Aci ?_;refine Aai ?_;exact g.1):J:=h ⟨g⟩
theorem Ahb {J G:Prop} (g:G) (h:Wg G→J:=by intro g;refine Abh ?_;refine Abg ?_;exact g.1):J:=h ⟨g⟩
theorem Ahc {J G:Prop} (g:G) (h:Wg G→J:=by intro g;refine Ab7 ?_;refine Acc ?_;exact g.1):J:=h ⟨g⟩
theorem Ahd {J G:Prop} (g:G) (h:Wg G→J:=by intro g;refine Abr ?_;refine Abh ?_;exact g.1):J:=h ⟨g⟩
theorem Ahe {J G:Prop} (g:G) (h:Wg G→J:=by intro g;refine Afg ?_;refine Aen ?_;exact g.1):J:=h ⟨g⟩
theorem Ahf {J G:Prop} (g:G) (h:Wg G→J:=by intro g;refine Aeq ?_;refine Aa0 ?_;exact g.1):J:=h ⟨g⟩
theorem Ahg {J G:Prop} (g:G) (h:Wg G→J:=by intro g;refine Aaa ?_;refine Ac3 ?_;exact g.1):J:=h ⟨g⟩
theorem Ahh {J G:Prop} (g:G) (h:Wg G→J:=by intro g;refine Aai ?_;refine Agt ?_;exact g.1):J:=h ⟨g⟩
theorem Ahi {J G:Prop} (g:G) (h:Wg G→J:=by intro g;refine Adh ?_;refine Adx ?_;exact g.1):J:=h ⟨g⟩
theorem Ahj {J G:Prop} (g:G) (h:Wg G→J:=by intro g;refine Aa8 ?_;refine Aal ?_;exact g.1):J:=h ⟨g⟩
end Go.Eng
namespace Go.Eng
variable {C:Cx} {D:List Deferred} {R H:List PH} {L:Env} {K:List It}
variable {dst:Option Tmp} {ty:TypeId} {pos:String} {aft:Array Edge} {g:Option (Nat × Bool)}
def ents:Nat→List (Int × Int)→List MapEntry
  | _,[]=>[]
  | i,kv::m=>⟨int kv.1,int kv.2,i⟩::ents (i+1) m
def mapO (m:List (Int × Int)):Obj:=.map (ents 0 m).toArray m.length
def midx (k:Int):List (Int × Int)→Option (Nat × Int)
  | []=>none
  | (a,v)::m=>if k=a then some (0,v) else (midx k m).map (fun p=>(p.1+1,p.2))
def mget (k:Int) (m:List (Int × Int)):Option Int:=(midx k m).map (·.2)
def mset (k v:Int):List (Int × Int)→List (Int × Int)
  | []=>[(k,v)]
  | (a,w)::m=>if k=a then (a,v)::m else (a,w)::mset k v m
theorem findNow_ents (k:Int):∀ (m:List (Int × Int)) (i j:Nat),Instr.findNow (.int .i64) (int k) (ents i m) j=some ((midx k m).map (fun p=>(j+p.1,int p.2)))
  | [],i,j=>rfl
  | (a,v)::m,i,j=>by
    by_cases h:k=a
    · subst h
      simp [ents,Instr.findNow,Instr.sameNow,midx,int]
    · have ih:=findNow_ents k m (i+1) (j+1)
      have hs:Instr.sameNow (.int .i64) (int k) (int a)=some false:=by simp [Instr.sameNow,int,h]
      simp only [ents,Instr.findNow,hs,midx,if_neg h,ih,Option.map_map]
      congr 2
      funext p
      show (j+1+p.1,int p.2)=(j+(p.1+1),int p.2)
      rw [show j+1+p.1=j+(p.1+1) by omega]
theorem mset_none {k v:Int}:∀ {m:List (Int × Int)} (i:Nat),midx k m=none→ents i m ++ [⟨int k,int v,i+m.length⟩]=ents i (mset k v m)∧(mset k v m).length=m.length+1
  | [],i,_=>⟨rfl,rfl⟩
  | (a,w)::m,i,h=>by
    unfold midx at h
    split at h
    · exact absurd h (by simp)
    · rename_i hk
      have h':midx k m=none:=by simpa using h
      obtain ⟨e,l⟩:=mset_none (k:=k) (v:=v) (m:=m) (i+1) h'
      simp only [mset,if_neg hk,ents,List.cons_append,List.length_cons,l,and_true,← e]
      congr 4
      omega
theorem mset_some {k v:Int}:∀ {m:List (Int × Int)} (i n:Nat) (w:Int),midx k m=some (n,w)→(ents i m).modify n (fun e=>{ e with key:=int k,val:=int v })=ents i (mset k v m)∧(mset k v m).length=m.length∧n<m.length∧((ents i m)[n]?).map (·.key)=some (int k)
  | [],i,n,w,h=>by simp [midx] at h
  | (a,u)::m,i,n,w,h=>by
    unfold midx at h
    split at h
    · rename_i hk
      subst hk
      simp at h
      obtain ⟨rfl,rfl⟩:=h
      simp [ents,mset]
    · rename_i hk
      cases hm:midx k m with
      | none=>rw [hm] at h; simp at h
      | some p =>
        rw [hm] at h
        simp at h
        obtain ⟨rfl,rfl⟩:=h
        obtain ⟨e,l,l2,l3⟩:=mset_some (k:=k) (v:=v) (m:=m) (i+1) p.1 p.2 hm
        simp only [mset,if_neg hk,ents,List.length_cons,l,List.modify_succ_cons,e]
        refine ⟨trivial,trivial,by omega,?_⟩
        simpa using l3
theorem ER {t:TypeId}:Loud C R H L ⟨dst,.makeMap t none,ty,pos,aft,g⟩ (fun v H'=>∃ b,v=.map (some b)∧H'=sng b (mapO [])::H):=by
  refine ⟨fun a w hx hs next Q hn=>?_⟩
  refine wpIn_value (v:=.map (some w.heap.size)) (w':=w.alloc (mapO [])) (by intro c; simp) ?_ (hn _ _ _ ⟨_,rfl,rfl⟩ (hs.alloc _))
  simp [execOp,Instr.makeMap,newObj]
  rfl
theorem run_checkKey {P:Program} {w:World} {kt:TypeId} {k:Int} (e:Bool) (n:Nat) (hkt:P.underlying kt=some (.int .i64)):(Instr.checkKey e (n+1) kt (int k)).run P w=.ok () w:=by
  simp [Instr.checkKey,Go.underlying,Sem.run,hkt,int]
theorem run_findKey {P:Program} {w:World} {kt:TypeId} {k:Int} {l:List (Int × Int)} (hkt:P.underlying kt=some (.int .i64)):(Instr.findKey kt (int k) (ents 0 l)).run P w=.ok ((midx k l).map (fun p=>(p.1,int p.2))) w:=by
  have hf:=findNow_ents k l 0 0
  simp only [Nat.zero_add] at hf
  simp [Instr.findKey,Go.underlying,Sem.run,hkt,hf]
theorem run_lookup {P:Program} {w:World} {t kt et:TypeId} {b:Nat} {k:Int} {l:List (Int × Int)} {ok:Bool} (ht:P.underlying t=some (.map kt et)) (hkt:P.underlying kt=some (.int .i64)) (hz:zeroP P et=some (int 0)) (hg:w.heap[b]?=some (mapO l)) :
    (Instr.lookup t (.map (some b)) (int k) ok).run P w=.ok (if ok then .tuple #[int ((mget k l).getD 0),.bool (mget k l).isSome] else int ((mget k l).getD 0)) w:=by
  have hf:=run_findKey (P:=P) (w:=w) (k:=k) (l:=l) hkt
  have hc:=fun e=>run_checkKey (P:=P) (w:=w) (k:=k) e 9999 hkt
  simp only [Nat.reduceAdd] at hc;unfold mget
  cases hm:midx k l with
  | none =>
    rw [hm] at hf
    simp [Instr.lookup,Go.underlying,Sem.run,ht,getObj,hg,mapO,hc,hf,run_zeroValue hz]
    done
  | some p =>
    rw [hm] at hf
    simp [Instr.lookup,Go.underlying,Sem.run,ht,getObj,hg,mapO,hc,hf]
    done
def MapAt (N:Bs) (R H:List PH) (b:Nat) (l:List (Int × Int)):Prop:=∀ w,Sat N R H w→w.heap[b]?=some (mapO l)
theorem mapAt_own {N:Bs} {b:Nat} {l:List (Int × Int)} (m:Mem (sng b (mapO l)) H):MapAt N R H b l:=fun w hs=>hs.h _ m.mem b _ (sng_self b _)
theorem mapAt_rd {N:Bs} {b:Nat} {l:List (Int × Int)} (m:Mem (sng b (mapO l)) R):MapAt N R H b l:=fun w hs=>hs.r _ m.mem b _ (sng_self b _)
theorem DH {x y:Operand} {t kt et:TypeId} {b:Nat} {k:Int} {l:List (Int × Int)} (h:evalE L x=some (.map (some b))) (hk:evalE L y=some (int k)) (ht:C.P.underlying t=some (.map kt et)) (hkt:C.P.underlying kt=some (.int .i64)) (hz:zeroP C.P et=some (int 0)) (hm:MapAt C.N R H b l) :
    Quiet C R H L ⟨dst,.lookup t x y false,ty,pos,aft,g⟩ (int ((mget k l).getD 0)):=
  ⟨by intro c; simp,fun a w hx hs=>by
    have e1:=hx x (by simp [Op.operands]) _ h
    have e2:=hx y (by simp [Op.operands]) _ hk
    simp [execOp,e1,e2,run_lookup ht hkt hz (hm w hs)]⟩
theorem FG {x y:Operand} {t kt et:TypeId} {b:Nat} {k:Int} {l:List (Int × Int)} (h:evalE L x=some (.map (some b))) (hk:evalE L y=some (int k)) (ht:C.P.underlying t=some (.map kt et)) (hkt:C.P.underlying kt=some (.int .i64)) (hz:zeroP C.P et=some (int 0)) (hm:MapAt C.N R H b l) :
    Quiet C R H L ⟨dst,.lookup t x y true,ty,pos,aft,g⟩ (.tuple #[int ((mget k l).getD 0),.bool (mget k l).isSome]):=
  ⟨by intro c; simp,fun a w hx hs=>by
    have e1:=hx x (by simp [Op.operands]) _ h
    have e2:=hx y (by simp [Op.operands]) _ hk
    simp [execOp,e1,e2,run_lookup ht hkt hz (hm w hs)]⟩
theorem run_mapUpdate {P:Program} {w:World} {t kt et:TypeId} {b:Nat} {k v:Int} {l:List (Int × Int)} (ht:P.underlying t=some (.map kt et)) (hkt:P.underlying kt=some (.int .i64)) (hg:w.heap[b]?=some (mapO l)) :
    (Instr.mapUpdate t (.map (some b)) (int k) (int v)).run P w=.ok () { w with heap:=w.heap.setIfInBounds b (mapO (mset k v l)) }:=by
  have hf:=run_findKey (P:=P) (w:=w) (k:=k) (l:=l) hkt
  have hc:=fun e=>run_checkKey (P:=P) (w:=w) (k:=k) e 9999 hkt
  simp only [Nat.reduceAdd] at hc
  cases hm:midx k l with
  | none =>
    rw [hm] at hf
    obtain ⟨e,n⟩:=mset_none (k:=k) (v:=v) 0 hm
    have e2:mapO (mset k v l)=.map ((ents 0 l).toArray.push ⟨int k,int v,l.length⟩) (l.length+1):=by
      unfold mapO; rw [n,← e]; simp
    rw [e2]
    simp [Instr.mapUpdate,Go.underlying,Sem.run,ht,getObj,hg,mapO,hc,hf,setObj]
    done
  | some p =>
    rw [hm] at hf
    obtain ⟨e,n,n2,n3⟩:=mset_some (k:=k) (v:=v) 0 p.1 p.2 hm
    have e2:mapO (mset k v l)=.map ((ents 0 l).toArray.modify p.1 (fun e=>{ e with key:=int k,val:=int v })) l.length:=by
      unfold mapO; rw [n,← e]; simp
    rw [e2]
    have hsb:Instr.sameBits 10000 (int k) (int k)=true:=by simp [Instr.sameBits,int]
    have hks:(Instr.keyThatStays (int k) (int k)).run P w=.ok (int k) w:=by simp [Instr.keyThatStays,hsb]
    simp [Instr.mapUpdate,Go.underlying,Sem.run,ht,getObj,hg,mapO,hc,hf,setObj,n3,hks]
    done
theorem DG {x y z:Operand} {t kt et:TypeId} {b:Nat} {k v:Int} {l:List (Int × Int)} {H':List PH} (h:evalE L x=some (.map (some b))) (hk:evalE L y=some (int k)) (hv:evalE L z=some (int v)) (ht:C.P.underlying t=some (.map kt et)) (hkt:C.P.underlying kt=some (.int .i64)) (hm:Take (sng b (mapO l)) H H') :
    Loud C R H L ⟨dst,.mapUpdate t x y z,ty,pos,aft,g⟩ (fun u H2=>u=undef∧H2=sng b (mapO (mset k v l))::H'):=by
  refine ⟨fun a w hx hs next Q hnx=>?_⟩
  have hg:=hs.own hm
  have e1:=hx x (by simp [Op.operands]) _ h
  have e2:=hx y (by simp [Op.operands]) _ hk
  have e3:=hx z (by simp [Op.operands]) _ hv
  refine wpIn_skipv (w':={ w with heap:=w.heap.setIfInBounds b (mapO (mset k v l)) }) (by intro c; simp) ?_ (hnx _ _ _ ⟨rfl,rfl⟩ (hs.turn hm ?_ ?_ ?_))
  · simp [execOp,e1,e2,e3,run_mapUpdate ht hkt hg]
  · simp
  · have:b<w.heap.size:=by
      rw [Array.getElem?_eq_some_iff] at hg; exact hg.1
    simp [this]
  · intro k hk; simp [Array.getElem?_setIfInBounds,Ne.symm hk]
end Go.Eng
namespace Go.Step
structure Ct where
  f:Int
  t:Int
  s:Int
  e:Int
  r:Int
  g:Int
  l:Int
def okCt (c:Ct):Prop:=(0≤c.f∧c.f≤15)∧(0≤c.t∧c.t≤15)∧(1≤c.r∧c.r≤1000)∧(1≤c.g∧c.g≤1048576)∧(0≤c.l∧c.l≤16)
instance (c:Ct):Decidable (okCt c):=inferInstanceAs (Decidable (_∧_))
def chkCt (c:Ct):Int:=if ¬ okCt c then 2 else if c.f=c.t then 1 else if c.s<0∨c.e≤c.s∨1099511627776-2*c.g<c.e then 2 else 0
def ovl (c d:Ct):Bool:=decide (chkCt c=0∧chkCt d=0∧c.f=d.f∧c.t=d.t∧c.s<d.e∧d.s<c.e)
theorem ovl_comm (c d:Ct):ovl c d=ovl d c:=by
  unfold ovl
  by_cases h:chkCt c=0∧chkCt d=0∧c.f=d.f∧c.t=d.t∧c.s<d.e∧d.s<c.e
  · rw [decide_eq_true h,decide_eq_true (by omega)]
  · rw [decide_eq_false h,decide_eq_false (by omega)]
theorem chkCt_se {c:Ct} (h:chkCt c=0):0≤c.s∧c.s<c.e∧c.e≤1099511627776:=by
  unfold chkCt at h
  split at h
  · omega
  · rename_i hk
    split at h
    · omega
    · split at h
      · omega
      · unfold okCt at hk
        omega
def firstE (e:Nat→Int):Nat→Int
  | 0=>0
  | n+1=>if firstE e n≠0 then firstE e n else e n
theorem firstE_ok {e:Nat→Int} {k:Nat} (h:firstE e k=0) (h2:e k=0):firstE e (k+1)=0:=by simp [firstE,h,h2]
theorem firstE_hit {e:Nat→Int} {k:Nat} (h:firstE e k=0) (h2:e k≠0):∀ n,k<n→firstE e n=e k
  | 0,hn=>by omega
  | n+1,hn=>by
    by_cases hk:k=n
    · subst hk; simp [firstE,h]
    · have ih:=firstE_hit h h2 n (by omega)
      simp [firstE,ih,h2]
theorem firstE_zero {e:Nat→Int}:∀ {n:Nat},firstE e n=0→∀ k,k<n→e k=0
  | 0,_,k,hk=>by omega
  | n+1,h,k,hk=>by
    unfold firstE at h
    split at h
    · contradiction
    · rename_i hc
      have hc':firstE e n=0:=Decidable.not_not.1 hc
      by_cases e':k=n
      · subst e'; exact h
      · exact firstE_zero hc' k (by omega)
theorem firstE_all {e:Nat→Int}:∀ {n:Nat},(∀ k,k<n→e k=0)→firstE e n=0
  | 0,_=>rfl
  | n+1,h=>firstE_ok (firstE_all (fun k hk=>h k (by omega))) (h n (by omega))
def quoE (qs:List Int) (i:Nat):Int:=match qs[i]? with
  | some q=>if q<0∨1073741824<q then 2 else 0
  | none=>0
def ctE (n:Nat) (cs:List Ct) (i:Nat):Int:=match cs[i]? with
  | some c=>if chkCt c≠0 then chkCt c else if (n:Int)≤c.f∨(n:Int)≤c.t then 2 else if (cs.take i).any (ovl c) then 14 else 0
  | none=>0
def chkPl (qs:List Int) (cs:List Ct):Int:=
  if qs.length<1∨16<qs.length∨64<cs.length then 4 else if firstE (quoE qs) qs.length≠0 then firstE (quoE qs) qs.length else firstE (ctE qs.length cs) cs.length
end Go.Step
namespace Go.Proofs.YtjehnjhkcmobcaaGreat
open Go.Eng Go.Step
set_option maxRecDepth 100000
set_option maxHeartbeats 64000000
def encC (c:Ct):List Value:=[int c.f,int c.t,int c.s,int c.e,int c.r,int c.g,int c.l]
theorem encC_len (c:Ct):(encC c).length=7:=rfl
theorem within_spec (a l h:Int):Ans Tryz.prog (fv 157) [int a,int l,int h] [] (fun r=>(r=.bool true∧l≤a∧a≤h)∨(r=.bool false∧¬ (l≤a∧a≤h))):=by
 refine spec_in (cap:=[]) Tryz.func157 rfl rfl Tryz.ntmps157 rfl envZ (fun N β=>?_)
 by_cases h1:l≤a
 ·by_cases h2:a≤h
  ·refine AC ?_
   refine AA ?_;refine Ae4 ?_;refine CX ?_;refine Abp ?_;refine C9 ?_;refine Acs ?_;exact AO (res1 rfl rfl) rsubZ selZ ⟨rfl,.inl ⟨rfl,h1,h2⟩⟩
  ·refine AC ?_
   refine AA ?_;refine Ae4 ?_;refine CX ?_;refine Abp ?_;refine DB ?_;refine Acs ?_
   exact AO (res1 rfl rfl) rsubZ selZ ⟨rfl,.inr ⟨rfl,by omega⟩⟩
 ·refine AC ?_
  refine AA ?_;refine Ae4 ?_;refine BP ?_;refine Aeh ?_;refine Aaa ?_
  exact AO (res1 rfl rfl) rsubZ selZ ⟨rfl,.inr ⟨rfl,by omega⟩⟩
theorem ctCheck_spec (c:Ct):Ans Tryz.prog (fv 98) [.agg #[int c.f,int c.t,int c.s,int c.e,int c.r,int c.g,int c.l]] [] (fun r=>r=int (chkCt c)):=by
 refine spec_in (cap:=[]) Tryz.func98 rfl rfl Tryz.ntmps98 rfl envZ (fun N β=>?_)
 repeat' (first
  | (refine AB ?_)
  | (refine AD ?_)
  | (refine AF ?_)
  | (refine AG ?_)
  | (refine AR ?_)
  | (refine AN ?_)
  | (refine BN ?_)
  | (refine CP ?_)
  | (refine FI ?_)
  | (refine AC ?_)
  | (refine AA ?_)
  | (refine AE ?_)
  | (refine AJ ?_)
  | (refine AL rfl ?_)
  | (refine AK rfl ?_)
  | (refine AH rfl rfl rfl ?_)
  | (focus ((refine BC (within_spec _ _ _) rfl rfl rdZ rfl rfl ?_; rintro v (⟨rfl,h⟩|⟨rfl,h⟩))))
  | (refine CO ?_; rintro _ _ ⟨b,rfl,rfl⟩)
  | (focus ((refine CU rfl rfl (cmp_eq _ _) rfl rfl (fun h=>?_) (fun h=>?_))))
  | (focus ((refine CU rfl rfl (cmp_lt _ _) rfl rfl (fun h=>?_) (fun h=>?_))))
  | (focus ((refine CU rfl rfl (cmp_le _ _) rfl rfl (fun h=>?_) (fun h=>?_))))
  | fail)
 all_goals (refine AO (res1 rfl rfl) rsubZ selZ ⟨rfl,?_⟩)
 all_goals (unfold chkCt okCt; (repeat' split) <;> first|rfl|(exfalso; omega))
theorem refCtCheck_spec (c:Ct):Ans Tryz.prog (fv 168) [.agg #[int c.f,int c.t,int c.s,int c.e,int c.r,int c.g,int c.l]] [] (fun r=>r=int (chkCt c)):=by
 refine spec_in (cap:=[]) Tryz.func168 rfl rfl Tryz.ntmps168 rfl envZ (fun N β=>?_)
 repeat' (first
  | (refine AB ?_)
  | (refine AD ?_)
  | (refine AF ?_)
  | (refine AG ?_)
  | (refine AR ?_)
  | (refine AN ?_)
  | (refine CP ?_)
  | (refine FI ?_)
  | (refine AC ?_)
  | (refine AA ?_)
  | (refine AE ?_)
  | (refine AJ ?_)
  | (refine AL rfl ?_)
  | (refine AK rfl ?_)
  | (refine AH rfl rfl rfl ?_)
  | (refine CO ?_; rintro _ _ ⟨b,rfl,rfl⟩)
  | (focus ((refine CU rfl rfl (cmp_eq _ _) rfl rfl (fun h=>?_) (fun h=>?_))))
  | (focus ((refine CU rfl rfl (cmp_lt _ _) rfl rfl (fun h=>?_) (fun h=>?_))))
  | (focus ((refine CU rfl rfl (cmp_le _ _) rfl rfl (fun h=>?_) (fun h=>?_))))
  | fail)
 all_goals (refine AO (res1 rfl rfl) rsubZ selZ ⟨rfl,?_⟩)
 all_goals (unfold chkCt okCt; (repeat' split) <;> first|rfl|(exfalso; omega))
theorem overlap_spec (c d:Ct):Ans Tryz.prog (fv 101) [.agg #[int c.f,int c.t,int c.s,int c.e,int c.r,int c.g,int c.l],.agg #[int d.f,int d.t,int d.s,int d.e,int d.r,int d.g,int d.l]] [] (fun r=>r=.bool (ovl c d)):=by
 refine spec_in (cap:=[]) Tryz.func101 rfl rfl Tryz.ntmps101 rfl envZ (fun N β=>?_)
 have hc:=ctCheck_spec c
 have hd:=ctCheck_spec d
 have sc:=@chkCt_se c
 have sd:=@chkCt_se d
 unfold ovl
 generalize chkCt c=x at hc sc
 generalize chkCt d=y at hd sd
 repeat' (first
  | (refine AB ?_)
  | (refine AD ?_)
  | (refine AF ?_)
  | (refine AG ?_)
  | (refine AR ?_)
  | (refine AN ?_)
  | (refine AV ?_)
  | (refine EX ?_)
  | (refine FJ ?_)
  | (refine AC ?_)
  | (refine AA ?_)
  | (refine AE ?_)
  | (refine AJ ?_)
  | (refine AL rfl ?_)
  | (refine AK rfl ?_)
  | (refine AH rfl rfl rfl ?_)
  | (focus ((refine BC hc rfl rfl rdZ rfl rfl ?_; rintro _ rfl)))
  | (focus ((refine BC hd rfl rfl rdZ rfl rfl ?_; rintro _ rfl)))
  | (refine CO ?_; rintro _ _ ⟨b,rfl,rfl⟩)
  | (focus ((refine CU rfl rfl (cmp_ne _ _) rfl rfl (fun h=>?_) (fun h=>?_))))
  | (focus ((refine CU rfl rfl (cmp_lt _ _) rfl rfl (fun h=>?_) (fun h=>?_))))
  | fail)
 all_goals (refine AO (res1 rfl rfl) rsubZ selZ ⟨rfl,?_⟩)
 all_goals (congr 1; first|exact (decide_eq_false (by omega)).symm|exact (decide_eq_true (by omega)).symm|(apply decide_eq_decide.2; constructor <;> intro <;> omega))
theorem refOverlap_spec (c d:Ct):Ans Tryz.prog (fv 169) [.agg #[int c.f,int c.t,int c.s,int c.e,int c.r,int c.g,int c.l],.agg #[int d.f,int d.t,int d.s,int d.e,int d.r,int d.g,int d.l]] [] (fun r=>r=.bool (ovl c d)):=by
 refine spec_in (cap:=[]) Tryz.func169 rfl rfl Tryz.ntmps169 rfl envZ (fun N β=>?_)
 have hc:=refCtCheck_spec c
 have hd:=refCtCheck_spec d
 unfold ovl
 generalize chkCt c=x at hc
 generalize chkCt d=y at hd
 repeat' (first
  | (refine AB ?_)
  | (refine AD ?_)
  | (refine AF ?_)
  | (refine AG ?_)
  | (refine AR ?_)
  | (refine AN ?_)
  | (refine AV ?_)
  | (refine AC ?_)
  | (refine AA ?_)
  | (refine AE ?_)
  | (refine AH rfl rfl rfl ?_)
  | (focus ((refine BC hc rfl rfl rdZ rfl rfl ?_; rintro _ rfl)))
  | (focus ((refine BC hd rfl rfl rdZ rfl rfl ?_; rintro _ rfl)))
  | (refine CO ?_; rintro _ _ ⟨b,rfl,rfl⟩)
  | (focus ((refine CU rfl rfl (cmp_eq _ _) rfl rfl (fun h=>?_) (fun h=>?_))))
  | (focus ((refine CU rfl rfl (cmp_lt _ _) rfl rfl (fun h=>?_) (fun h=>?_))))
  | fail)
 all_goals (refine AO (res1 rfl rfl) rsubZ selZ ⟨rfl,?_⟩)
 all_goals (congr 1; first|exact (decide_eq_false (by omega)).symm|exact (decide_eq_true (by omega)).symm|(apply decide_eq_decide.2; constructor <;> intro <;> omega))
end Go.Proofs.YtjehnjhkcmobcaaGreat
