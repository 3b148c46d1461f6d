/-
  Contract of the abstraction's 'small'.
-/
import Derived.Test.YtjdlohdcdmhigaaGreatDoorWMrg
import Derived.Test.YtjdlohdcdmhigaaGreatDoorWQuo
import Derived.Test.YtjdlohdcdmhigaaGreatDoorMSlB
set_option linter.unusedSimpArgs false
set_option linter.unusedVariables false
namespace Go.Proofs.YtjdlohdcdmhigaaGreatDoor
open Go.Sl Go
attribute [local irreducible] vc opsW opsD opV opW PureV ReadV Thn Blk
set_option maxRecDepth 8000 in
set_option maxHeartbeats 16000000 in
theorem qe0 {w0 w:World}{Γ:List HP}{pa:Addr}{vv sv dv sc se sg:Value}{ex:Bool}{S:SysV}{most:Int}(hw:Sat w0 w (Box pa 92 [vv,sv,dv,.bool ex]::RdH (fun w=>RSys w sc se sg S)::Γ)) (hT:TabI w0) (hst:0≤S.st∧S.st≤4096) :
  Calls Tryz.prog 84 #[.pointer (some pa),sysV S sc se sg,.int .i64 most] w fun e w'=>∃ cv ev gv v ex',e=.returned (.tuple #[sysV (smlS S most) cv ev gv,v,errV (smlErr S most)])∧Sat w0 w' (Box pa 92 [vv,sv,dv,.bool ex']::OS tInt 3 v (smlC S most)::RdH (fun w=>RSys w cv ev gv (smlS S most))::Γ):=by
 have oS:=(hw.rdE 1 rfl).ones
 obtain⟨n,hnS⟩:∃ n:Nat,S.st=(n:Int):=⟨S.st.toNat,by omega⟩
 refine qaf (args:=[.pointer (some pa),sysV S sc se sg,.int .i64 most]) mixed Tryz.func84 rfl (by kernel_rfl) (Nat.le_of_ble_eq_true rfl) ?_
 unfold sysV
 rw [hnS] at oS ⊢
 repeat (first|refine qac ?_|(refine qaa ?_;clear hw;intro p w hw)|(refine qad ?_;clear hw;intro w hw)|(refine qab ?_;clear hw;intro s w hw))
 rename_i ps ws
 obtain⟨pr,hpr⟩:∃ q,q=p:=⟨p,rfl⟩
 subst hpr
 have hw:Sat w0 w (Box pr 96 [.int .i64 0,.int .i64 0,.slice none 0 0,.slice none 0 0,.slice none 0 0]::Box ps 96 [.int .i64 n,.int .i64 S.ini,sc,se,sg]::Box pa 92 [vv,sv,dv,.bool ex]::RdH (fun w=>RSys w sc se sg S)::Γ):=hw
 refine go_if (fun h1 => ?_) (fun h1 => ?_)
 ·have hE:smlErr S most=0:=by unfold smlErr;rw [hnS,if_pos h1]
  have hC:smlC S most=sameL n:=by unfold smlC;rw [hnS,if_pos h1];congr 1
  have hP:smlS S most=S:=by unfold smlS;rw [hnS,if_pos h1]
  rw [hE,hC,hP]
  repeat (first|refine qac ?_|(refine qaa ?_;clear hw;intro p w hw)|(refine qad ?_;clear hw;intro w hw)|(refine qab ?_;clear hw;intro s w hw))
  refine qax [.op 0,.op 1,.op 2,.op 3,.chk 0,.op 4,.op 5,.op 6] hw (by kernel_rfl) ?_;clear hw;intro w hw
  repeat (first|refine qac ?_|(refine qaa ?_;clear hw;intro p w hw)|(refine qad ?_;clear hw;intro w hw)|(refine qab ?_;clear hw;intro s w hw))
  refine qah rfl (qfw (n:=n) (by omega)) ?_
  rintro _ w' ⟨v,rfl,hk'⟩;replace hw:=hw.call1 hk';clear hk';refine⟨_,rfl,?_⟩
  repeat (first|refine qac ?_|(refine qaa ?_;clear hw;intro p w hw)|(refine qad ?_;clear hw;intro w hw)|(refine qab ?_;clear hw;intro s w hw))
  exact qbr (p:=pr) (vs:=[.int .i64 n,.int .i64 S.ini,sc,se,sg]) rfl rfl (v':=v) rfl (v2:=.nilIface) rfl rfl (fun j v hv=>qau (i:=1) hw rfl hv) ⟨sc,se,sg,v,ex,by rw [hnS,qas rfl],hw.selG⟩
 have hne:¬S.st≤most:=by omega
 have hnn:¬(n:Int)≤most:=by omega
 repeat (first|refine qac ?_|(refine qaa ?_;clear hw;intro p w hw)|(refine qad ?_;clear hw;intro w hw)|(refine qab ?_;clear hw;intro s w hw))
 refine qah rfl (by have:=qlE (S:=S) (most:=most) (hw.rdE 3 rfl) (hT.at hw);unfold sysV at this;rw [hnS] at this;exact this) ?_
 rintro _ w' ⟨mv,rfl,hmc,hk'⟩;replace hw:=hw.call1 hk';clear hk';refine⟨_,rfl,?_⟩
 by_cases hv:valB S=true
 case neg =>
  have hvs:¬ValS S:=fun h=>hv (qfr h)
  have hE:smlErr S most=2:=by unfold smlErr;rw [if_neg hne,if_neg hvs]
  have hC:smlC S most=[]:=by unfold smlC;rw [if_neg hne,if_neg hvs]
  have hP:smlS S most=sysNo:=by unfold smlS;rw [if_neg hne,if_neg hvs]
  have hD:dstE S=2:=by unfold dstE;rw [if_neg hv]
  rw [hE,hC,hP,hD,qan (by decide)]
  repeat (first|refine qac ?_|(refine qaa ?_;clear hw;intro p w hw)|(refine qad ?_;clear hw;intro w hw)|(refine qab ?_;clear hw;intro s w hw))
  refine qap (parts:=[]) (vs:=[]) rfl rfl rfl ?_
  repeat (first|refine qac ?_|(refine qaa ?_;clear hw;intro p w hw)|(refine qad ?_;clear hw;intro w hw)|(refine qab ?_;clear hw;intro s w hw))
  refine qbr (p:=pr) (vs:=[.int .i64 0,.int .i64 0,.slice none 0 0,.slice none 0 0,.slice none 0 0]) rfl rfl (v':=.slice none 0 0) rfl (v2:=.iface 63 (.int .i64 2)) rfl rfl (fun j v hv=>qau (i:=1) hw rfl hv) ⟨.slice none 0 0,.slice none 0 0,.slice none 0 0,.slice none 0 0,ex,rfl,?_⟩
  have h1:Sat w0 _ (RdH (fun w=>RSys w (.slice none 0 0) (.slice none 0 0) (.slice none 0 0) sysNo)::_):=Sat.rd0 (fun w=>⟨RS.nil,RS.nil,RS.nil⟩) (hw.nil (T:=tInt) (e:=3))
  exact h1.selG
 have hvs:ValS S:=Classical.byContradiction fun h=>by rw [qb5 h] at hv;cases hv
 have hE:smlErr S most=quoErr S (mrgC S most):=by unfold smlErr;rw [if_neg hne,if_pos hvs]
 have hC:smlC S most=mrgC S most:=by unfold smlC;rw [if_neg hne,if_pos hvs]
 have hP:smlS S most=quoS S (mrgC S most):=by unfold smlS;rw [if_neg hne,if_pos hvs]
 have hD:dstE S=0:=by unfold dstE;rw [if_pos hv]
 have hR:mrgR S most=mrgC S most:=by unfold mrgR;rw [if_pos hv]
 obtain⟨hm1,hm2⟩:=hmc hv
 rw [hE,hC,hP,hD,qas rfl]
 rw [hR] at hw
 repeat (first|refine qac ?_|(refine qaa ?_;clear hw;intro p w hw)|(refine qad ?_;clear hw;intro w hw)|(refine qab ?_;clear hw;intro s w hw))
 refine qah rfl (by have:=qhq (S:=S) (hw.rdE 4 rfl) (hT.at hw);unfold sysV at this;rw [hnS] at this;exact this) ?_
 rintro _ w' ⟨fv,rfl,hbl,hk'⟩;replace hw:=hw.call1 hk';clear hk';refine⟨_,rfl,?_⟩
 rw [hD,qas rfl]
 have hbR:bisR S=bsL S:=by unfold bisR;rw [if_pos hv]
 rw [hbR] at hw
 obtain⟨L,hLl,hLe⟩:=hbl hv
 have a1:1≤S.st:=hvs.1
 have hBl:0<(bsL S).length:=by rw [hLe,qci];omega
 have hBe:∀ x∈bsL S,0≤x∧x≤65536:=fun x hx=>by
  rw [hLe] at hx
  obtain⟨i,hi,rfl⟩:=List.getElem_of_mem hx
  have h1:=qcX (l:=L) (i:=i) (by rw [qci] at hi;exact hi)
  rw [getD_at hi] at h1
  have:=qcj L
  omega
 obtain⟨C,hCe⟩:∃ C,C=mrgC S most:=⟨_,rfl⟩
 obtain⟨F,hFe⟩:∃ F,F=bsL S:=⟨_,rfl⟩
 rw [←hCe] at hm1 hm2 hw ⊢
 rw [←hFe] at hBl hBe hw
 have hCx:=hm2 _ (qhw hm1)
 have hFx:=hBe _ (qhw hBl)
 cases ex with
 | false =>
  repeat (first|refine qac ?_|(refine qaa ?_;clear hw;intro p w hw)|(refine qad ?_;clear hw;intro w hw)|(refine qab ?_;clear hw;intro s w hw))
  simp only [List.set_cons_succ,List.set_cons_zero] at hw
  obtain⟨bx,hw⟩:∃ bx,Sat w0 _ (OS tInt 3 fv F::OS tInt 3 mv C::Box pr 96 [.int .i64 0,.int .i64 0,.slice none 0 0,.slice none 0 0,.slice none 0 0]::Box ps 96 [.int .i64 n,.int .i64 S.ini,sc,se,sg]::Box pa 92 [vv,sv,dv,.bool bx]::RdH (fun w=>RSys w sc se sg S)::Γ):=⟨_,hw⟩
  refine qah rfl (by have:=qho (S:=S) (c:=C) (hw.rdE 5 rfl) hvs (rsO (s:=mv) hw);unfold sysV at this;rw [hnS] at this;exact this) ?_
  rintro _ w' ⟨qc,qe,qg,rfl,hk'⟩;replace hw:=hw.call hk';clear hk';refine⟨_,rfl,?_⟩
  obtain⟨ev,hev⟩:∃ v,v=errV (quoErr S C):=⟨_,rfl⟩
  obtain⟨Q,hQ⟩:∃ q,q=quoS S C:=⟨_,rfl⟩
  rw [←hev,←hQ]
  rw [←hQ] at hw
  simp only [List.cons_append,List.nil_append] at hw
  have o1:=(rsO (s:=qc) hw).one
  have o2:=(rsO (s:=qe) hw).one
  have o3:=(rsO (s:=qg) hw).one
  repeat (first|refine qac ?_|(refine qaa ?_;clear hw;intro p w hw)|(refine qad ?_;clear hw;intro w hw)|(refine qab ?_;clear hw;intro s w hw))
  refine qao (n:=5) (p:=p) (vs:=[.int .i64 Q.st,.int .i64 Q.ini,qc,qe,qg]) rfl rfl hw inferInstance rfl rfl (by simp only [List.all_cons,List.all_nil,o1,o2,o3];rfl) ?_
  clear hw;intro w hw
  repeat (first|refine qac ?_|(refine qaa ?_;clear hw;intro p w hw)|(refine qad ?_;clear hw;intro w hw)|(refine qab ?_;clear hw;intro s w hw))
  refine qao (n:=5) (p:=pr) (vs:=[.int .i64 Q.st,.int .i64 Q.ini,qc,qe,qg]) rfl rfl hw inferInstance rfl rfl (by simp only [List.all_cons,List.all_nil,o1,o2,o3];rfl) ?_
  clear hw;intro w hw
  repeat (first|refine qac ?_|(refine qaa ?_;clear hw;intro p w hw)|(refine qad ?_;clear hw;intro w hw)|(refine qab ?_;clear hw;intro s w hw))
  refine qbr (p:=pr) (vs:=[.int .i64 Q.st,.int .i64 Q.ini,qc,qe,qg]) rfl rfl (v':=mv) rfl (v2:=ev) rfl rfl (fun j v hv=>qau (i:=6) hw rfl hv) ⟨qc,qe,qg,mv,bx,rfl,?_⟩
  have hw2:Sat w0 w (OS tInt 3 qc Q.costs::OS tEdg 196 qe Q.edges::OS tBool 4 qg Q.goals::Box pa 92 [vv,sv,dv,.bool bx]::OS tInt 3 mv C::Γ):=hw.selG
  have h3:=Sat.rd (Δ:=[_,_,_]) (φ:=fun w=>RSys w qc qe qg Q) (fun _ _ h=>⟨h.rs 0 rfl,h.rs 1 rfl,h.rs 2 rfl⟩) hw2
  exact h3.selG
 | true =>
  repeat (first|refine qac ?_|(refine qaa ?_;clear hw;intro p w hw)|(refine qad ?_;clear hw;intro w hw)|(refine qab ?_;clear hw;intro s w hw))
  refine qah rfl (qeV (l:=C) (rsO (s:=mv) hw) hm1 (by omega)) ?_
  rintro _ w' ⟨rfl,hk'⟩;replace hw:=hw.call0 hk';clear hk';refine⟨_,rfl,?_⟩
  repeat (first|refine qac ?_|(refine qaa ?_;clear hw;intro p w hw)|(refine qad ?_;clear hw;intro w hw)|(refine qab ?_;clear hw;intro s w hw))
  refine qah rfl (qeV (l:=F) (rsO (s:=fv) hw) hBl (by omega)) ?_
  rintro _ w' ⟨rfl,hk'⟩;replace hw:=hw.call0 hk';clear hk';refine⟨_,rfl,?_⟩
  repeat (first|refine qac ?_|(refine qaa ?_;clear hw;intro p w hw)|(refine qad ?_;clear hw;intro w hw)|(refine qab ?_;clear hw;intro s w hw))
  simp only [List.set_cons_succ,List.set_cons_zero] at hw
  obtain⟨bx,hw⟩:∃ bx,Sat w0 _ (OS tInt 3 fv F::OS tInt 3 mv C::Box pr 96 [.int .i64 0,.int .i64 0,.slice none 0 0,.slice none 0 0,.slice none 0 0]::Box ps 96 [.int .i64 n,.int .i64 S.ini,sc,se,sg]::Box pa 92 [vv,sv,dv,.bool bx]::RdH (fun w=>RSys w sc se sg S)::Γ):=⟨_,hw⟩
  refine qah rfl (by have:=qho (S:=S) (c:=C) (hw.rdE 5 rfl) hvs (rsO (s:=mv) hw);unfold sysV at this;rw [hnS] at this;exact this) ?_
  rintro _ w' ⟨qc,qe,qg,rfl,hk'⟩;replace hw:=hw.call hk';clear hk';refine⟨_,rfl,?_⟩
  obtain⟨ev,hev⟩:∃ v,v=errV (quoErr S C):=⟨_,rfl⟩
  obtain⟨Q,hQ⟩:∃ q,q=quoS S C:=⟨_,rfl⟩
  rw [←hev,←hQ]
  rw [←hQ] at hw
  simp only [List.cons_append,List.nil_append] at hw
  have o1:=(rsO (s:=qc) hw).one
  have o2:=(rsO (s:=qe) hw).one
  have o3:=(rsO (s:=qg) hw).one
  repeat (first|refine qac ?_|(refine qaa ?_;clear hw;intro p w hw)|(refine qad ?_;clear hw;intro w hw)|(refine qab ?_;clear hw;intro s w hw))
  refine qao (n:=5) (p:=p) (vs:=[.int .i64 Q.st,.int .i64 Q.ini,qc,qe,qg]) rfl rfl hw inferInstance rfl rfl (by simp only [List.all_cons,List.all_nil,o1,o2,o3];rfl) ?_
  clear hw;intro w hw
  repeat (first|refine qac ?_|(refine qaa ?_;clear hw;intro p w hw)|(refine qad ?_;clear hw;intro w hw)|(refine qab ?_;clear hw;intro s w hw))
  refine qao (n:=5) (p:=pr) (vs:=[.int .i64 Q.st,.int .i64 Q.ini,qc,qe,qg]) rfl rfl hw inferInstance rfl rfl (by simp only [List.all_cons,List.all_nil,o1,o2,o3];rfl) ?_
  clear hw;intro w hw
  repeat (first|refine qac ?_|(refine qaa ?_;clear hw;intro p w hw)|(refine qad ?_;clear hw;intro w hw)|(refine qab ?_;clear hw;intro s w hw))
  refine qbr (p:=pr) (vs:=[.int .i64 Q.st,.int .i64 Q.ini,qc,qe,qg]) rfl rfl (v':=mv) rfl (v2:=ev) rfl rfl (fun j v hv=>qau (i:=6) hw rfl hv) ⟨qc,qe,qg,mv,bx,rfl,?_⟩
  have hw2:Sat w0 w (OS tInt 3 qc Q.costs::OS tEdg 196 qe Q.edges::OS tBool 4 qg Q.goals::Box pa 92 [vv,sv,dv,.bool bx]::OS tInt 3 mv C::Γ):=hw.selG
  have h3:=Sat.rd (Δ:=[_,_,_]) (φ:=fun w=>RSys w qc qe qg Q) (fun _ _ h=>⟨h.rs 0 rfl,h.rs 1 rfl,h.rs 2 rfl⟩) hw2
  exact h3.selG
end Go.Proofs.YtjdlohdcdmhigaaGreatDoor
