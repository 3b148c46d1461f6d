/-
  Saturated cost partitioning in plain Lean: tables and parts, one after the other.
-/
import Derived.Test.YtkmbenhffledpaaGreatWPdbBuild
set_option linter.unusedSimpArgs false
set_option linter.unusedVariables false
namespace Go.Proofs.YtkmbenhffledpaaGreat
open Go.Sl Go
def subL (a b:List Int):List Int:=(List.range a.length).map fun i=>a.getD i tInt.dflt-b.getD i tInt.dflt
theorem qq0 (a b:List Int):(subL a b).length=a.length:=by simp [subL]
theorem qo0 {a b:List Int}{i:Nat}(h:i<a.length):(subL a b).getD i tInt.dflt=a.getD i tInt.dflt-b.getD i tInt.dflt:=by simp [subL,List.getD,h]
def subK (a b:List Int) (j:Nat):List Int:=(List.range a.length).map fun i=>if i<j then a.getD i tInt.dflt-b.getD i tInt.dflt else a.getD i tInt.dflt
theorem ql7 (a b:List Int) (j:Nat):(subK a b j).length=a.length:=by simp [subK]
theorem qo1 (a b:List Int):subK a b 0=a:=by
 apply List.ext_getElem (by simp [subK])
 intro i h1 h2;simp [subK,List.getD,h2]
theorem qq1 (a b:List Int):subK a b a.length=subL a b:=by
 unfold subK subL
 exact List.map_congr_left fun i hi=>if_pos (List.mem_range.1 hi)
theorem qsO {a b:List Int}{j:Nat}(h:j<a.length):(subK a b j).getD j tInt.dflt=a.getD j tInt.dflt:=by simp [subK,List.getD,h]
theorem qq2 {a b:List Int}{j:Nat}:(subK a b j).set j (a.getD j tInt.dflt-b.getD j tInt.dflt)=subK a b (j+1):=by
 apply List.ext_getElem (by simp [subK])
 intro i h1 h2
 rw [List.getElem_set]
 simp only [subK,List.getElem_map,List.getElem_range]
 split
 ·rename_i e;subst e;rw [if_pos (by omega)]
 ·by_cases h:i<j
  ·rw [if_pos h,if_pos (by omega)]
  ·rw [if_neg h,if_neg (by omega)]
def leftK (c:List Int) (Ps:List (List Int)) (k:Nat):List Int:=(Ps.take k).foldl subL c
theorem qhC (c:List Int) (Ps:List (List Int)):leftK c Ps 0=c:=rfl
theorem qeR {c:List Int}{Ps:List (List Int)}{k:Nat}(h:k<Ps.length):leftK c Ps (k+1)=subL (leftK c Ps k) (Ps.getD k []):=by
 unfold leftK;rw [qan [] h,List.foldl_append];rfl
theorem qjU {c:List Int}{Ps Qs:List (List Int)}{k:Nat}(h:k≤Ps.length):leftK c (Ps++Qs) k=leftK c Ps k:=by
 unfold leftK;rw [List.take_append_of_le_length h]
structure Run (t:TTask) (Ls:List (List Int)) (c:List Int) (Ds Ps:List (List Int)):Prop where
 dl:Ds.length=Ls.length
 pl:Ps.length=Ls.length
 dist:∀ k,k<Ls.length→DistOk (pEdges t (Ls.getD k [])) (leftK c Ps k) (GoalPK t (Ls.getD k [])) (cntL t.vars (Ls.getD k [])).toNat (Ds.getD k [])
 part:∀ k,k<Ls.length→Ps.getD k []=satL (pEdges t (Ls.getD k [])) (Ds.getD k []) t.ops.length
theorem qbH {α:Type}{l m:List α}{i:Nat}{d:α}(h:i<l.length):(l++m).getD i d=l.getD i d:=by simp [List.getD_eq_getElem?_getD,List.getElem?_append_left h]
theorem qba {α:Type}{l:List α}{x:α}{i:Nat}{d:α}(h:i=l.length):(l++[x]).getD i d=x:=by subst h;simp [List.getD_eq_getElem?_getD]
theorem Run.nil (t:TTask) (c:List Int):Run t [] c [] []:=⟨rfl,rfl,fun k hk=>absurd hk (Nat.not_lt_zero _),fun k hk=>absurd hk (Nat.not_lt_zero _)⟩
theorem Run.snoc {t:TTask}{Ls:List (List Int)}{c:List Int}{Ds Ps:List (List Int)}{L D:List Int}(h:Run t Ls c Ds Ps) (hD:DistOk (pEdges t L) (leftK c Ps Ls.length) (GoalPK t L) (cntL t.vars L).toNat D) :
  Run t (Ls++[L]) c (Ds++[D]) (Ps++[satL (pEdges t L) D t.ops.length]):=by
 have hdl:=h.dl
 have hpl:=h.pl
 refine⟨by simp [h.dl],by simp [h.pl],fun k hk => ?_,fun k hk => ?_⟩
 ·simp only [List.length_append,List.length_cons,List.length_nil] at hk
  rw [qjU (by omega)]
  by_cases e:k<Ls.length
  ·rw [qbH e,qbH (by omega)];exact h.dist k e
  ·have e2:k=Ls.length:=by omega
   rw [qba e2,qba (by omega),e2];exact hD
 ·simp only [List.length_append,List.length_cons,List.length_nil] at hk
  by_cases e:k<Ls.length
  ·rw [qbH e,qbH (by omega),qbH (by omega)];exact h.part k e
  ·have e2:k=Ls.length:=by omega
   rw [qba e2,qba (by omega),qba (by omega)]
structure CostOkS (t:TTask) (c:List Int):Prop where
 len:c.length=t.ops.length
 rng:∀ x∈c,0≤x∧x≤1048576
theorem CostOkS.at {t:TTask}{c:List Int}(h:CostOkS t c) {i:Nat}(hi:i<t.ops.length):0≤c.getD i tInt.dflt∧c.getD i tInt.dflt≤1048576:=h.rng _ (qak tInt.dflt (by rw [h.len];exact hi))
theorem CostOkS.of {t:TTask}{c:List Int}(hl:c.length=t.ops.length) (h:∀ i,i<t.ops.length→0≤c.getD i tInt.dflt∧c.getD i tInt.dflt≤1048576):CostOkS t c :=
 ⟨hl,fun x hx=>by obtain⟨i,hi,rfl⟩:=List.getElem_of_mem hx;have:=h i (by omega);rwa [qaj hi] at this⟩
theorem CostOkS.eok {t:TTask}{c L:List Int}(h:CostOkS t c):EOk (pEdges t L) c (cntL t.vars L).toNat:=eok_U ⟨h.len,h.rng⟩
theorem qdy {t:TTask}(hg:GoodT t):CostOkS t (costsT t):=⟨by simp [costsT],qmk hg⟩
theorem CostOkS.sub {t:TTask}{c L D:List Int}(h:CostOkS t c) (hD:DistOk (pEdges t L) c (GoalPK t L) (cntL t.vars L).toNat D):CostOkS t (subL c (satL (pEdges t L) D t.ops.length))∧∀ i,i<t.ops.length→0≤(satL (pEdges t L) D t.ops.length).getD i tInt.dflt∧(satL (pEdges t L) D t.ops.length).getD i tInt.dflt≤c.getD i tInt.dflt:=by
 have hE:=h.eok (L:=L)
 have hso:SatOk (pEdges t L) D c.length (satL (pEdges t L) D t.ops.length):=by rw [←h.len];exact qnS hE.lab
 have hle:=fun i (hi:i<t.ops.length)=>hso.le hE hD (i:=i) (by rw [h.len];exact hi)
 refine⟨.of (by rw [qq0];exact h.len) fun i hi => ?_,hle⟩
 rw [qo0 (by rw [h.len];exact hi)]
 have h1:=hle i hi
 have h2:=h.at hi
 omega
theorem Run.cost {t:TTask}{Ls:List (List Int)}{c:List Int}{Ds Ps:List (List Int)}(h:Run t Ls c Ds Ps) (hc:CostOkS t c):∀ k,k≤Ls.length→CostOkS t (leftK c Ps k)
 | 0,_=>hc
 | k+1,hk=>by
  rw [qeR (by rw [h.pl];omega),h.part k (by omega)]
  exact ((h.cost hc k (by omega)).sub (h.dist k (by omega))).1
def svalK (t:TTask) (Ls Ds:List (List Int)) (s:List Int) (k:Nat):Int:=dg (Ds.getD k []) (idxL t.vars (Ls.getD k []) s)
def sumV (f:Nat→Int) (k:Nat):Int:=((List.range k).map f).sum
theorem qo2 (f:Nat→Int):sumV f 0=0:=rfl
theorem qby (f:Nat→Int) (k:Nat):sumV f (k+1)=sumV f k+f k:=by simp [sumV,List.range_succ]
theorem qkQ {f:Nat→Int}{B:Int}{n:Nat}(h:∀ k,k<n→0≤f k∧f k≤B):0≤sumV f n∧sumV f n≤n*B:=by
 induction n with
 | zero=>simp [sumV]
 | succ n ih =>
  have h1:=ih fun k hk=>h k (by omega)
  have h2:=h n (by omega)
  rw [qby,Int.natCast_add,Int.add_mul]
  simp only [Int.natCast_one,Int.one_mul]
  omega
open Classical in
noncomputable def valPt (t:TTask) (Ls Ds:List (List Int)) (s:List Int):Int :=
 if ¬StateOk t.vars s then 1125899906842624 else if ∃ k,k<Ls.length∧svalK t Ls Ds s k=1125899906842624 then 1125899906842624 else sumV (svalK t Ls Ds s) Ls.length
theorem qq3 {t:TTask}{Ls Ds:List (List Int)}{s:List Int}(h:¬StateOk t.vars s):valPt t Ls Ds s=1125899906842624:=if_pos h
theorem qjV {t:TTask}{Ls Ds:List (List Int)}{s:List Int}{k:Nat}(h:StateOk t.vars s) (hk:k<Ls.length) (hv:svalK t Ls Ds s k=1125899906842624):valPt t Ls Ds s=1125899906842624:=by
 unfold valPt;rw [if_neg (fun hn=>hn h),if_pos ⟨k,hk,hv⟩]
theorem qjW {t:TTask}{Ls Ds:List (List Int)}{s:List Int}(h:StateOk t.vars s) (hv:∀ k,k<Ls.length→svalK t Ls Ds s k≠1125899906842624):valPt t Ls Ds s=sumV (svalK t Ls Ds s) Ls.length:=by
 unfold valPt;rw [if_neg (fun hn=>hn h),if_neg (fun⟨k,hk,hh⟩=>hv k hk hh)]
end Go.Proofs.YtkmbenhffledpaaGreat
