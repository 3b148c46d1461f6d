/-
  Contracts of the methods 'Parts' and 'Value' of a partition.
-/
import Derived.Test.YtkmbenhffledpaaGreatWSatNew
set_option linter.unusedSimpArgs false
set_option linter.unusedVariables false
namespace Go.Proofs.YtkmbenhffledpaaGreat
open Go.Sl Go
attribute [local irreducible] vc opsW opsD opV opW PureV ReadV Thn Blk
set_option maxRecDepth 8000 in
set_option maxHeartbeats 2000000 in
theorem qlo {w0:World}{p:Addr}{t:TTask}{Ls Ds Ps:List (List Int)}{c:List Int}{sv:Value}{s:List Int}(hr:RPt w0 p t Ls Ds Ps) (hR:Run t Ls c Ds Ps) (hl:Ls.length≤32) (hp:∀ i,i<Ls.length→pErr t (Ls.getD i [])=0) (hs:RS tInt w0 sv s) :
  Calls Tryz.prog 204 #[.pointer (some p),sv] w0 fun e w'=>e=.returned (.int .i64 (valPt t Ls Ds s))∧Sat w0 w' []:=by
 obtain⟨vv,dv,pv,qs,ps,h1,h2,h3,h4,h5,h6⟩:=hr
 have hql:=h4.1
 have hdl:=hR.dl
 have hw:=Sat.start w0
 refine qab (args:=[.pointer (some p),sv]) mixed Tryz.func204 rfl (by kernel_rfl) (Nat.le_of_ble_eq_true rfl) ?_
 repeat refine qaa ?_
 refine qac rfl (qbd h2 (hs.at hw)) ?_
 rintro _ w' ⟨⟨r,rfl,hr⟩,hk'⟩
 replace hw:=hw.call0 hk'
 clear hk'
 refine⟨_,rfl,?_⟩
 cases r
 ·rw [qq3 (fun h=>by have:=hr.2 h;cases this)]
  repeat refine qaa ?_
  exact qae (v:=.int .i64 1125899906842624) rfl rfl ⟨rfl,hw⟩
 have hok:=hr.1 rfl
 have hvr:∀ k,k<Ls.length→0≤svalK t Ls Ds s k∧svalK t Ls Ds s k≤1125899906842624:=fun k hk=>qnU (qgv (hp k hk)).2.1 (hR.dist k hk) hok
 repeat refine qaa ?_
 refine qap [4,5,7,8,23,24,25,26,27,28,29,30,31,32,33,34,35] (G:=Nat) (fun k=>[(23,.int .i64 k),(5,.int .i64 (sumV (svalK t Ls Ds s) k))]) (fun k w=>k≤Ls.length∧(∀ i,i<k→svalK t Ls Ds s i≠1125899906842624)∧Sat w0 w []) (fun k=>Ls.length-k) 0 (fun _=>rfl) ⟨rfl,rfl,trivial⟩ ⟨Nat.zero_le _,fun i hi=>absurd hi (Nat.not_lt_zero _),hw⟩ ?_
 clear hw
 rintro σ k w ⟨hk,hne,hw⟩
 repeat refine qaa ?_
 refine go_if (fun h7 => ?_) (fun h7 => ?_)
 ·have hkl:k<Ls.length:=by omega
  obtain⟨q,hq,hdb⟩:=h4.2 k (by omega)
  have hdo:=qsg (hp k hkl) (hR.dist k hkl)
  have hval:valD (dbI t (Ls.getD k []) (Ds.getD k [])) s=svalK t Ls Ds s k:=qpx hok
  have hvk:=hvr k hkl
  have hsb:=qkQ (n:=k) (f:=svalK t Ls Ds s) (B:=1125899906842624) fun i hi=>hvr i (by omega)
  have hss:=qby (svalK t Ls Ds s) k
  repeat refine qaa ?_
  rw [hq]
  refine qac rfl (qnE (hdb.at hw) hdo (hs.at hw)) ?_
  rintro _ w' ⟨rfl,hk'⟩
  replace hw:=hw.call0 hk'
  clear hk'
  rw [hval]
  refine⟨_,rfl,?_⟩
  repeat refine qaa ?_
  refine go_if (fun h8 => ?_) (fun h8 => ?_)
  ·rw [qjV hok hkl h8]
   repeat refine qaa ?_
   exact qae (v:=.int .i64 1125899906842624) rfl rfl ⟨rfl,hw⟩
  ·repeat refine qaa ?_
   refine⟨k+1,⟨rfl,by rw [hss];rfl,trivial⟩,agr,⟨by omega,fun i hi => ?_,hw⟩,by omega⟩
   by_cases e:i=k
   ·subst e;exact h8
   ·exact hne i (by omega)
 ·have hke:k=Ls.length:=by omega
  subst hke
  rw [qjW hok hne]
  repeat refine qaa ?_
  exact qae (v:=.int .i64 (sumV (svalK t Ls Ds s) Ls.length)) rfl rfl ⟨rfl,hw⟩
end Go.Proofs.YtkmbenhffledpaaGreat
