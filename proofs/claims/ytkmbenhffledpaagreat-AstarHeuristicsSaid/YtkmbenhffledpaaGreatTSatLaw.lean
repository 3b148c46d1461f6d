/-
  Saturated cost partitioning is admissible and consistent.
-/
import Derived.Test.YtkmbenhffledpaaGreatTRun
import Derived.Test.YtkmbenhffledpaaGreatMW11
set_option linter.unusedSimpArgs false
set_option linter.unusedVariables false
namespace Go.Proofs.YtkmbenhffledpaaGreat
open Go.Sl Go
structure Qtx (t:TTask) (Ls Ds Ps:List (List Int)):Prop where
 run:Run t Ls (costsT t) Ds Ps
 good:GoodT t
 inv:∀ k,k<Ls.length→InV t.vars (Ls.getD k [])
 small:∀ k,k<Ls.length→cntL t.vars (Ls.getD k [])≤512
 len:Ls.length≤32
theorem qsQ {f g:Nat→Int}{n:Nat}(h:∀ k,k<n→f k≤g k):sumV f n≤sumV g n:=by
 induction n with
 | zero=>exact Int.le_refl _
 | succ n ih =>
  have h1:=ih fun k hk=>h k (by omega)
  have h2:=h n (by omega)
  rw [qby,qby];omega
theorem qq5 (f g:Nat→Int) (n:Nat):sumV (fun k=>f k+g k) n=sumV f n+sumV g n:=by
 induction n with
 | zero=>rfl
 | succ n ih=>rw [qby,qby,qby,ih];omega
theorem qm2 {f:Nat→Int}{n:Nat}(h:∀ k,k<n→f k=0):sumV f n=0:=by
 induction n with
 | zero=>rfl
 | succ n ih=>rw [qby,ih fun k hk=>h k (by omega),h n (by omega)];rfl
section
variable {t:TTask}{Ls Ds Ps:List (List Int)}
theorem Qtx.eok (h:Qtx t Ls Ds Ps) {k:Nat}(hk:k<Ls.length):EOk (pEdges t (Ls.getD k [])) (leftK (costsT t) Ps k) (cntL t.vars (Ls.getD k [])).toNat:=(h.run.cost (qdy h.good) k (by omega)).eok
theorem Qtx.big (h:Qtx t Ls Ds Ps) {k:Nat}(hk:k<Ls.length):((cntL t.vars (Ls.getD k [])).toNat:Int)*1048576≤536870912:=by
 have:=h.small k hk
 omega
theorem Qtx.rng (h:Qtx t Ls Ds Ps) {s:List Int}(hs:StateOk t.vars s) {k:Nat}(hk:k<Ls.length):0≤svalK t Ls Ds s k∧svalK t Ls Ds s k≤inf:=qnU (h.inv k hk) (h.run.dist k hk) hs
theorem Qtx.bound (h:Qtx t Ls Ds Ps) {s:List Int}(hs:StateOk t.vars s) {k:Nat}(hk:k<Ls.length) (hf:svalK t Ls Ds s k<inf):svalK t Ls Ds s k≤536870912:=by
 have hb:=qaF hs (h.inv k hk).mem
 have hd:=h.run.dist k hk
 have:=hd.bound (h.eok hk) (C:=1048576) (by decide) (fun x hx=>((h.run.cost (qdy h.good) k (by omega)).rng x hx).2) (i:=(idxL t.vars (Ls.getD k []) s).toNat) (by omega) (by rw [Int.toNat_of_nonneg hb.1];exact hf)
 rw [Int.toNat_of_nonneg hb.1] at this
 exact Int.le_trans this (h.big hk)
theorem Qtx.fin (h:Qtx t Ls Ds Ps) {s:List Int}(hs:StateOk t.vars s):(valPt t Ls Ds s<inf↔∀ k,k<Ls.length→svalK t Ls Ds s k<inf)∧(valPt t Ls Ds s<inf→valPt t Ls Ds s=sumV (svalK t Ls Ds s) Ls.length)∧0≤valPt t Ls Ds s∧valPt t Ls Ds s≤inf:=by
 have hl:=h.len
 by_cases hf:∀ k,k<Ls.length→svalK t Ls Ds s k<inf
 ·have hv:=qjW hs fun k hk=>(by have:=hf k hk;have e:inf=1125899906842624:=rfl;omega:svalK t Ls Ds s k≠1125899906842624)
  have hb:=qkQ (n:=Ls.length) (f:=svalK t Ls Ds s) (B:=536870912) fun k hk=>⟨(h.rng hs hk).1,h.bound hs hk (hf k hk)⟩
  have e:inf=1125899906842624:=rfl
  have hlt:valPt t Ls Ds s<inf:=by rw [hv];omega
  exact⟨⟨fun _=>hf,fun _=>hlt⟩,fun _=>hv,by rw [hv];exact hb.1,by omega⟩
 ·obtain⟨k,hk⟩:=Classical.not_forall.1 hf
  obtain⟨hk,hn⟩:=Classical.not_imp.1 hk
  have hr:=(h.rng hs hk).2
  have hv:=qjV hs hk (show svalK t Ls Ds s k=1125899906842624 by have e:inf=1125899906842624:=rfl;omega)
  have e:inf=1125899906842624:=rfl
  refine⟨⟨fun hlt=>by omega,fun hh=>absurd hh hf⟩,fun hlt=>by omega,by omega,by omega⟩
theorem Qtx.budget (h:Qtx t Ls Ds Ps) {op:Nat}(ho:op<t.ops.length):∀ k,k≤Ls.length→sumV (fun j=>(Ps.getD j []).getD op tInt.dflt) k+(leftK (costsT t) Ps k).getD op tInt.dflt=(costsT t).getD op tInt.dflt
 | 0,_=>by rw [qo2,qhC];omega
 | k+1,hk=>by
  have ih:=h.budget ho k (by omega)
  have hll:=(h.run.cost (qdy h.good) k (by omega)).len
  rw [qby,qeR (by rw [h.run.pl];omega),qo0 (by omega)]
  omega
theorem Qtx.step1 (h:Qtx t Ls Ds Ps) {s:List Int}{op:Nat}(hs:StateOk t.vars s) (ho:op<t.ops.length) (ha:AppT t s op) {k:Nat}(hk:k<Ls.length) (hf:svalK t Ls Ds (succT t s op) k<inf) :
  svalK t Ls Ds s k<inf∧svalK t Ls Ds s k≤svalK t Ls Ds (succT t s op) k+(Ps.getD k []).getD op tInt.dflt:=by
 have hL:=h.inv k hk
 have hd:=h.run.dist k hk
 have hE:=h.eok hk
 have hCk:=h.run.cost (qdy h.good) k (by omega)
 have he:=qpt h.good hL hs ho ha
 have hs2:=qaZ h.good hs ho
 have hb:=qaF hs hL.mem
 have hb2:=qaF hs2 hL.mem
 have hsf:svalK t Ls Ds s k<inf:=by
  have hw2:=hd.att (idxL t.vars (Ls.getD k []) (succT t s op)).toNat (by omega) (by rw [Int.toNat_of_nonneg hb2.1];exact hf)
  rw [Int.toNat_of_nonneg hb2.1] at hw2
  have hB:=h.big hk
  have:=(hd.fin hE (C:=1048576) (by decide) (fun x hx=>(hCk.rng x hx).2) (by have e:inf=1125899906842624:=rfl;omega) (i:=(idxL t.vars (Ls.getD k []) s).toNat) (by omega)).2 ⟨_,by rw [Int.toNat_of_nonneg hb.1];exact .step he hw2⟩
  rwa [Int.toNat_of_nonneg hb.1] at this
 refine⟨hsf,?_⟩
 have hso:SatOk (pEdges t (Ls.getD k [])) (Ds.getD k []) t.ops.length (Ps.getD k []):=by
  rw [h.run.part k hk]
  exact qnS fun e he=>by have:=hE.lab e he;rw [hCk.len] at this;exact this
 have:=hso.low _ he hsf hf
 simp only [cst,Int.toNat_natCast] at this
 unfold svalK
 omega
theorem Qtx.step (h:Qtx t Ls Ds Ps) {s:List Int}{op:Nat}(hs:StateOk t.vars s) (ho:op<t.ops.length) (ha:AppT t s op) (hf:valPt t Ls Ds (succT t s op)<inf) :
  valPt t Ls Ds s<inf∧valPt t Ls Ds s≤(costsT t).getD op tInt.dflt+valPt t Ls Ds (succT t s op):=by
 have hs2:=qaZ h.good hs ho
 obtain⟨a1,a2,a3,a4⟩:=h.fin hs
 obtain⟨b1,b2,b3,b4⟩:=h.fin hs2
 have hk:=b1.1 hf
 have hlt:=a1.2 fun k hkl=>(h.step1 hs ho ha hkl (hk k hkl)).1
 refine⟨hlt,?_⟩
 rw [a2 hlt,b2 hf]
 have h1:=qsQ (n:=Ls.length) (f:=svalK t Ls Ds s) (g:=fun k=>svalK t Ls Ds (succT t s op) k+(Ps.getD k []).getD op tInt.dflt) fun k hkl=>(h.step1 hs ho ha hkl (hk k hkl)).2
 rw [qq5] at h1
 have h2:=h.budget ho Ls.length (Nat.le_refl _)
 have h3:=((h.run.cost (qdy h.good) Ls.length (Nat.le_refl _)).at ho).1
 omega
theorem Qtx.goal (h:Qtx t Ls Ds Ps) {s:List Int}(hs:StateOk t.vars s) (hg:HoldFs s t.goal):valPt t Ls Ds s=0:=by
 have hz:∀ k,k<Ls.length→svalK t Ls Ds s k=0:=fun k hk=>qnT (h.inv k hk) (h.run.dist k hk) hs hg
 have hf:=(h.fin hs).1.2 fun k hk=>by rw [hz k hk];decide
 rw [(h.fin hs).2.1 hf]
 exact qm2 hz
end
end Go.Proofs.YtkmbenhffledpaaGreat
