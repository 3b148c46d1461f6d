/-
  Contract of 'saturate.New'.
-/
import Derived.Test.YtkmbenhffledpaaGreatWSatur
set_option linter.unusedSimpArgs false
set_option linter.unusedVariables false
namespace Go.Proofs.YtkmbenhffledpaaGreat
open Go.Sl Go
attribute [local irreducible] vc opsW opsD opV opW PureV ReadV Thn Blk
def DbF (t:TTask) (Ls:List (List Int)) (qs:List Value) (Ds:List (List Int)) (w:World):Prop:=qs.length=Ds.length∧∀ i,i<Ds.length→∃ q,vget qs i=.pointer (some q)∧RDb w q (dbI t (Ls.getD i []) (Ds.getD i []))
def PaF (ps:List Value) (Ps:List (List Int)) (w:World):Prop:=ps.length=Ps.length∧∀ i,i<Ps.length→RS tInt w (vget ps i) (Ps.getD i [])
def RPt (w:World) (p:Addr) (t:TTask) (Ls Ds Ps:List (List Int)):Prop:=∃ vv dv pv qs ps,BoxR w p [vv,dv,pv]∧RS tInt w vv t.vars∧RS tVal w dv qs∧DbF t Ls qs Ds w∧RS tVal w pv ps∧PaF ps Ps w
theorem DbF.at {w0 w:World}{Γ:List HP}{t:TTask}{Ls:List (List Int)}{qs:List Value}{Ds:List (List Int)}(h:DbF t Ls qs Ds w0) (hw:Sat w0 w Γ):DbF t Ls qs Ds w:=⟨h.1,fun i hi=>let ⟨q,a,b⟩:=h.2 i hi;⟨q,a,b.at hw⟩⟩
theorem PaF.at {w0 w:World}{Γ:List HP}{ps:List Value}{Ps:List (List Int)}(h:PaF ps Ps w0) (hw:Sat w0 w Γ):PaF ps Ps w:=⟨h.1,fun i hi=>(h.2 i hi).at hw⟩
theorem RPt.at {w0 w:World}{Γ:List HP}{p:Addr}{t:TTask}{Ls Ds Ps:List (List Int)}(h:RPt w0 p t Ls Ds Ps) (hw:Sat w0 w Γ):RPt w p t Ls Ds Ps:=by
 obtain⟨vv,dv,pv,qs,ps,h1,h2,h3,h4,h5,h6⟩:=h
 exact⟨vv,dv,pv,qs,ps,h1.at hw,h2.at hw,h3.at hw,h4.at hw,h5.at hw,h6.at hw⟩
theorem qhv {ss:List Value}{v:Value}{i:Nat}(h:i<ss.length):vget (ss++[v]) i=vget ss i:=by simp [qa7,List.getD_eq_getElem?_getD,List.getElem?_append_left h]
theorem qgf {ss:List Value}{v:Value}{i:Nat}(h:i=ss.length):vget (ss++[v]) i=v:=by subst h;simp [qa7,List.getD_eq_getElem?_getD]
theorem DbF.snoc {t:TTask}{Ls:List (List Int)}{qs:List Value}{Ds:List (List Int)}{w:World}{q:Addr}{D:List Int}(h:DbF t Ls qs Ds w) (hq:RDb w q (dbI t (Ls.getD Ds.length []) D)):DbF t Ls (qs++[.pointer (some q)]) (Ds++[D]) w:=by
 have h1:=h.1
 refine⟨by simp [h1],fun i hi => ?_⟩
 simp only [List.length_append,List.length_cons,List.length_nil] at hi
 by_cases e:i<Ds.length
 ·rw [qhv (by omega),qbH e];exact h.2 i e
 ·have e2:i=Ds.length:=by omega
  rw [qgf (by omega),qba e2,e2]
  exact⟨q,rfl,hq⟩
theorem PaF.snoc {ps:List Value}{Ps:List (List Int)}{w:World}{s:Value}{S:List Int}(h:PaF ps Ps w) (hs:RS tInt w s S):PaF (ps++[s]) (Ps++[S]) w:=by
 have h1:=h.1
 refine⟨by simp [h1],fun i hi => ?_⟩
 simp only [List.length_append,List.length_cons,List.length_nil] at hi
 by_cases e:i<Ps.length
 ·rw [qhv (by omega),qbH e];exact h.2 i e
 ·have e2:i=Ps.length:=by omega
  rw [qgf (by omega),qba e2]
  exact hs
open Classical in
noncomputable def nErr (t:TTask) (Ls:List (List Int)):Int:=if checkT t≠0 then checkT t else if ∃ i,i<Ls.length∧¬PatOk t.vars (Ls.getD i []) then 2 else if 32<Ls.length then 5 else 0
def cstK (t:TTask) (k:Nat):List Int:=(List.range t.ops.length).map fun i=>if i<k then (costsT t).getD i tInt.dflt else 0
theorem qqN (t:TTask) (k:Nat):(cstK t k).length=t.ops.length:=by simp [cstK]
theorem qoM (t:TTask):cstK t 0=List.replicate t.ops.length 0:=by
 apply List.ext_getElem (by simp [cstK])
 intro i h1 h2;simp [cstK]
theorem qqO (t:TTask):cstK t t.ops.length=costsT t:=by
 apply List.ext_getElem (by simp [cstK,costsT])
 intro i h1 h2
 have hi:i<t.ops.length:=by simpa [cstK] using h1
 simp [cstK,hi,List.getD,h2]
theorem qqP {t:TTask}{k:Nat}:(cstK t k).set k ((costsT t).getD k tInt.dflt)=cstK t (k+1):=by
 apply List.ext_getElem (by simp [cstK])
 intro i h1 h2
 rw [List.getElem_set]
 simp only [cstK,List.getElem_map,List.getElem_range]
 split
 ·rename_i e;subst e;rw [if_pos (by omega)]
 ·by_cases h:i<k
  ·rw [if_pos h,if_pos (by omega)]
  ·rw [if_neg h,if_neg (by omega)]
theorem qtk {t:TTask}{cs:List Int}(h:cs.length=t.ops.length):csU t cs=cs:=by
 unfold csU
 split
 ·rename_i h0
  rw [List.eq_nil_of_length_eq_zero h0]
  exact List.eq_nil_of_length_eq_zero (by simp only [costsT,List.length_map];omega)
 ·rfl
theorem CostOkS.berr {t:TTask}{c L:List Int}(h:CostOkS t c) (hg:GoodT t) (hp:pErr t L=0):bErr t L c=0:=by
 unfold bErr
 rw [if_neg (by rw [(qbk t).2 hg];decide),if_neg (by have:=h.len;omega),if_neg (fun⟨x,hx,hb⟩=>by have:=h.rng x hx;unfold BadC at hb;omega),hp]
set_option maxRecDepth 8000 in
set_option maxHeartbeats 8000000 in
theorem qrJ {w0:World}{a b c d s:Value}{vs:List OpV}{t:TTask}{ss:List Value}{Ls:List (List Int)}(ht:RTask w0 a b c d vs t) (hl:RLs w0 s ss Ls) (hP:GoodT t→(∀ i,i<Ls.length→PatOk t.vars (Ls.getD i []))→Ls.length≤32→∀ i,i<Ls.length→pErr t (Ls.getD i [])=0) :
  Calls Tryz.prog 54 #[.agg #[a,b,c,d],s] w0 fun e w' =>
   (nErr t Ls≠0∧e=.returned (.tuple #[.pointer none,errV (nErr t Ls)])∧Sat w0 w' []) ∨
   (nErr t Ls=0∧GoodT t∧Ls.length≤32∧(∀ i,i<Ls.length→pErr t (Ls.getD i [])=0)∧∃ p Ds Ps,e=.returned (.tuple #[.pointer (some p),.nilIface])∧Run t Ls (costsT t) Ds Ps∧Sat w0 w' [RdH fun w=>RPt w p t Ls Ds Ps]):=by
 have ht':=ht
 obtain⟨ha,hb,hc,hd⟩:=ht
 have hrs:=hd.rs
 have hdl:=hd.len
 have hlr:=hl.rs
 have hln:=hl.len
 have hlb:=hlr.big
 have hw:=Sat.start w0
 refine qab (args:=[.agg #[a,b,c,d],s]) mixed Tryz.func54 rfl (by kernel_rfl) (Nat.le_of_ble_eq_true rfl) ?_
 repeat (first|refine qaa ?_|(refine qaf ?_;clear hw;intro p w hw))
 obtain⟨pt,hpt⟩:∃ pt,pt=p:=⟨p,rfl⟩
 subst hpt
 refine qac rfl (qa6 (ht'.at hw)) ?_
 rintro _ w' ⟨rfl,hk'⟩
 replace hw:=hw.call0 hk'
 clear hk'
 refine⟨_,rfl,?_⟩
 by_cases h1:checkT t=0
 rotate_left
 ·have hbe:nErr t Ls=checkT t:=if_pos h1
  rw [qaA h1]
  repeat refine qaa ?_
  exact qav (v:=.pointer none) (v':=.iface 116 (.int .i64 (checkT t))) rfl rfl rfl (.inl ⟨by rw [hbe];exact h1,by rw [hbe,qaA h1],hw.sel⟩)
 rw [qaT h1]
 have hg:=(qbk t).1 h1
 have hol:=hg.ops
 repeat refine qaa ?_
 refine qac rfl (qnr (ht'.at hw) (boxRO hw) (hl.at hw)) ?_
 rintro _ w' ⟨⟨r,rfl,hr⟩,hk'⟩
 replace hw:=hw.call0 hk'
 clear hk'
 refine⟨_,rfl,?_⟩
 cases r
 rotate_left
 ·have hbe:nErr t Ls=2:=by unfold nErr;rw [if_neg (by simp [h1]),if_pos (hr.1 rfl)]
  repeat refine qaa ?_
  exact qav (v:=.pointer none) (v':=.iface 116 (.int .i64 2)) rfl rfl rfl (.inl ⟨by rw [hbe];decide,by rw [hbe,qaA (by decide)],hw.sel⟩)
 have hpat:∀ i,i<Ls.length→PatOk t.vars (Ls.getD i []):=fun i hi=>by
  by_cases h:PatOk t.vars (Ls.getD i [])
  ·exact h
  ·have:=hr.2 ⟨i,hi,h⟩;cases this
 have hnp:¬∃ i,i<Ls.length∧¬PatOk t.vars (Ls.getD i []):=fun⟨i,hi,h⟩=>h (hpat i hi)
 repeat refine qaa ?_
 refine go_if (fun h2 => ?_) (fun h2 => ?_)
 ·have hbe:nErr t Ls=5:=by unfold nErr;rw [if_neg (by simp [h1]),if_neg hnp,if_pos (by omega)]
  repeat refine qaa ?_
  exact qav (v:=.pointer none) (v':=.iface 116 (.int .i64 5)) rfl rfl rfl (.inl ⟨by rw [hbe];decide,by rw [hbe,qaA (by decide)],hw.sel⟩)
 have hbe:nErr t Ls=0:=by unfold nErr;rw [if_neg (by simp [h1]),if_neg hnp,if_neg (by omega)]
 have hL32:Ls.length≤32:=by omega
 have hpe:=hP hg hpat hL32
 repeat (first|refine qaa ?_|(refine qaq ?_;clear hw;intro s w hw))
 obtain⟨lv,hlv⟩:∃ lv,lv=s:=⟨s,rfl⟩
 subst hlv
 rw [show ((vs.length:Int)).toNat=t.ops.length by omega,←qoM t] at hw
 refine qap [8,9,37,38,39,40,41,42,43,44,45,46,47] (G:=Nat) (fun k=>[(37,.int .i64 k)]) (fun k w=>k≤t.ops.length∧Sat w0 w [OS tInt 3 lv (cstK t k),Box pt 26 [a,b,c,d]]) (fun k=>t.ops.length-k) 0 (fun _=>rfl) ⟨rfl,trivial⟩ ⟨Nat.zero_le _,hw⟩ ?_
 clear hw
 rintro σ k w ⟨hk,hw⟩
 have hcl:=qqN t k
 repeat refine qaa ?_
 refine go_if (fun h3 => ?_) (fun h3 => ?_)
 ·have hkl:k<t.ops.length:=by omega
  have hop:=hd.at_ k hkl
  have hone:=hop.one
  have hco:=hop.cost
  repeat (first|refine qaa ?_|(refine qaf ?_;clear hw;intro p w hw)|(refine qag ?_;clear hw;intro w hw))
  rw [hco,←qbi hkl,qqP] at hw
  exact⟨k+1,⟨rfl,trivial⟩,agr,⟨by omega,hw.sel⟩,by omega⟩
 have hke:k=t.ops.length:=by omega
 subst hke
 rw [qqO] at hw
 clear hcl
 have hC:=qdy hg
 have hvb:t.vars.length≤1099511627776:=by have:=hg.vars;omega
 repeat refine qaa ?_
 refine qac rfl (qax (ha.at hw) hvb) ?_
 rintro _ w' ⟨vv,rfl,hk'⟩
 replace hw:=hw.call1 hk'
 clear hk'
 refine⟨_,rfl,?_⟩
 have ovv:=(hw.rs 0 rfl).one
 refine qjQ (v1:=vv) rfl rfl (by simp only [List.all_cons,List.all_nil,ovv];rfl) ?_
 refine qaV (vs:=[vv,.slice none 0 0,.slice none 0 0]) rfl hw ?_
 clear hw
 intro pp w hw
 repeat refine qaa ?_
 have hw1:Sat w0 w [OS tInt 3 lv (leftK (costsT t) [] 0),RdH (DbF t Ls [] []),RdH (PaF [] []),OS tVal 165 (.slice none 0 0) [],OS tVal 22 (.slice none 0 0) [],Box pp 164 [vv,.slice none 0 0,.slice none 0 0],OS tInt 3 vv t.vars,Box pt 26 [a,b,c,d]]:=by
  have hw2:Sat w0 w [Box pp 164 [vv,.slice none 0 0,.slice none 0 0],OS tInt 3 vv t.vars,OS tInt 3 lv (costsT t),Box pt 26 [a,b,c,d]]:=hw
  have hw3:=Sat.rd0 (φ:=PaF [] []) (fun w=>⟨rfl,fun i hi=>absurd hi (Nat.not_lt_zero _)⟩) (Sat.rd0 (φ:=DbF t Ls [] []) (fun w=>⟨rfl,fun i hi=>absurd hi (Nat.not_lt_zero _)⟩) ((hw2.nil (T:=tVal) (e:=165)).nil (T:=tVal) (e:=22)))
  rw [qhC]
  exact hw3.sel
 clear hw
 refine qap [4,5,12,13,14,15,16,55,56,57,58,59,60,61,62,63,64,65,66,67,68,69,70,71,72,73,74,75,76,77,78,79,80,81,82,83,84,85,86,87,88,89,90,91,92,93,94,95,96,97,98,99,100,101,102,103,104,105,106,107] (G:=Nat × Value × Value × List Value × List Value × List (List Int) × List (List Int)) (fun x=>[(55,.int .i64 x.1)]) (fun x w=>x.1≤Ls.length∧Run t (Ls.take x.1) (costsT t) x.2.2.2.2.2.1 x.2.2.2.2.2.2∧x.2.2.2.1.length=x.1∧x.2.2.2.2.1.length=x.1∧Sat w0 w [OS tInt 3 lv (leftK (costsT t) x.2.2.2.2.2.2 x.1),RdH (DbF t Ls x.2.2.2.1 x.2.2.2.2.2.1),RdH (PaF x.2.2.2.2.1 x.2.2.2.2.2.2),OS tVal 165 x.2.1 x.2.2.2.1,OS tVal 22 x.2.2.1 x.2.2.2.2.1,Box pp 164 [vv,x.2.1,x.2.2.1],OS tInt 3 vv t.vars,Box pt 26 [a,b,c,d]]) (fun x=>Ls.length-x.1) (0,.slice none 0 0,.slice none 0 0,[],[],[],[]) (fun _=>rfl) ⟨rfl,trivial⟩ ⟨Nat.zero_le _,Run.nil t _,rfl,rfl,hw1⟩ ?_
 clear hw1
 rintro σ1 ⟨k,dv,pv,qs,ps,Ds,Ps⟩ w ⟨hk,hR,hql,hpl,hw⟩
 simp only at hk hR hql hpl hw
 have htk:(Ls.take k).length=k:=by rw [List.length_take];omega
 have hDsl:Ds.length=k:=by rw [hR.dl,htk]
 have hPsl:Ps.length=k:=by rw [hR.pl,htk]
 repeat refine qaa ?_
 refine go_if (fun h4 => ?_) (fun h4 => ?_)
 ·have hkl:k<Ls.length:=by omega
  have hpk:=hpe k hkl
  have hCk:CostOkS t (leftK (costsT t) Ps k):=hR.cost hC k (by omega)
  repeat refine qaa ?_
  refine qac rfl (qny (kv:=lv) (vp:=vget ss k) (L:=(Ls.getD k [])) (cs:=leftK (costsT t) Ps k) (ht'.at hw) ((hl.at_ k hkl).at hw) (rsO hw)) ?_
  rintro _ w' (⟨h1',_⟩|⟨_,_,_,_,q,D,rfl,hD,hk'⟩)
  ·exact absurd (hCk.berr hg hpk) h1'
  rw [qtk hCk.len] at hD
  replace hw:=hw.call1 hk'
  clear hk'
  refine⟨_,rfl,?_⟩
  have hdb:=qsg hpk hD
  repeat refine qaa ?_
  refine qac rfl (qg6 (rdbO hw) hdb) ?_
  rintro _ w' ⟨sv,rfl,hk'⟩
  replace hw:=hw.call1 hk'
  clear hk'
  refine⟨_,rfl,?_⟩
  obtain⟨hCs,hSr⟩:=hCk.sub hD
  have hm:(dbI t (Ls.getD k []) D).sys.costs.length=t.ops.length:=by show (costsT t).length=_;simp [costsT]
  rw [hm] at hw
  have hSl:(satL (pEdges t (Ls.getD k [])) D t.ops.length).length=t.ops.length:=qqe
  obtain⟨S,hS⟩:∃ S,S=satL (pEdges t (Ls.getD k [])) D t.ops.length:=⟨_,rfl⟩
  have hll:=hCk.len
  have hw1:Sat w0 w' [OS tInt 3 lv (subK (leftK (costsT t) Ps k) S 0),OS tInt 3 sv S,DbO q (dbI t (Ls.getD k []) D),RdH (DbF t Ls qs Ds),RdH (PaF ps Ps),OS tVal 165 dv qs,OS tVal 22 pv ps,Box pp 164 [vv,dv,pv],OS tInt 3 vv t.vars,Box pt 26 [a,b,c,d]]:=by
   have hw2:Sat w0 w' [OS tInt 3 sv (satL (pEdges t (Ls.getD k [])) D t.ops.length),DbO q (dbI t (Ls.getD k []) D),OS tInt 3 lv (leftK (costsT t) Ps k),RdH (DbF t Ls qs Ds),RdH (PaF ps Ps),OS tVal 165 dv qs,OS tVal 22 pv ps,Box pp 164 [vv,dv,pv],OS tInt 3 vv t.vars,Box pt 26 [a,b,c,d]]:=hw
   rw [←hS] at hw2
   rw [qo1]
   exact hw2.sel
  clear hw
  have hw:=hw1
  clear hw1
  rw [←hS] at hCs hSr hSl
  have hl0:=ql7 (leftK (costsT t) Ps k) S 0
  repeat refine qaa ?_
  refine qap [16,73,74,75,76,77,78,79,80,81,82,83,84,85,86] (G:=Nat) (fun j=>[(73,.int .i64 j)]) (fun j w=>j≤t.ops.length∧Sat w0 w [OS tInt 3 lv (subK (leftK (costsT t) Ps k) S j),OS tInt 3 sv S,DbO q (dbI t (Ls.getD k []) D),RdH (DbF t Ls qs Ds),RdH (PaF ps Ps),OS tVal 165 dv qs,OS tVal 22 pv ps,Box pp 164 [vv,dv,pv],OS tInt 3 vv t.vars,Box pt 26 [a,b,c,d]]) (fun j=>t.ops.length-j) 0 (fun _=>rfl) ⟨rfl,trivial⟩ ⟨Nat.zero_le _,hw⟩ ?_
  clear hw
  rintro σ2 j w ⟨hj,hw⟩
  have hlj:=ql7 (leftK (costsT t) Ps k) S j
  repeat refine qaa ?_
  refine go_if (fun h5 => ?_) (fun h5 => ?_)
  ·have hjl:j<t.ops.length:=by omega
   have hsj:=hSr j hjl
   have hcj:=hCk.at hjl
   have hat:=qsO (a:=leftK (costsT t) Ps k) (b:=S) (j:=j) (by omega)
   repeat (first|refine qaa ?_|(refine qag ?_;clear hw;intro w hw))
   rw [hat,qq2] at hw
   exact⟨j+1,⟨rfl,trivial⟩,agr,⟨by omega,hw⟩,by omega⟩
  have hje:j=t.ops.length:=by omega
  subst hje
  have hnx:leftK (costsT t) (Ps++[S]) (k+1)=subL (leftK (costsT t) Ps k) S:=by
   rw [qeR (by simp;omega),qjU (by omega),qba hPsl.symm]
  have hend:subK (leftK (costsT t) Ps k) S t.ops.length=subL (leftK (costsT t) Ps k) S:=by rw [←hll,qq1]
  rw [hend,←hnx] at hw
  have hR2:Run t (Ls.take (k+1)) (costsT t) (Ds++[D]) (Ps++[S]):=by
   rw [qan [] hkl,hS]
   exact hR.snoc (by rw [htk];exact hD)
  have osv:=(rsO (s:=sv) hw).cells1
  repeat refine qaa ?_
  refine qeP (.step 0 [.op 0] (.step 1 [.op 1] (.step 2 [.op 2] (.step 3 [.op 3] (.step 4 [.op 4] (.step 6 [.op 6] (.step 9 [.op 9] (.step 10 [.op 10] (.step 11 [.op 11] (.step 13 [.op 13] (.step 5 [.op 5] (.step 12 [.op 12] (.alt 7 [.op 7,.chk 5,.chk 12] (.alt 8 [.op 8,.chk 12] (.step 14 [.op 14,.chk 5,.chk 12] (.step 15 [.op 15] (.step 16 [.op 16] (.step 17 [.op 17] (.step 18 [.op 18] (.step 19 [.op 19] (.step 20 [.op 20] (.step 21 [.op 21] (.lin []))))))))) (.alt 14 [.op 14,.chk 5,.chk 12] (.step 8 [.op 8,.chk 12] (.step 15 [.op 15] (.step 16 [.op 16] (.step 17 [.op 17] (.step 18 [.op 18] (.step 19 [.op 19] (.step 20 [.op 20] (.step 21 [.op 21] (.lin []))))))))) (.stop))) (.alt 14 [.op 14,.chk 5,.chk 12] (.step 7 [.op 7,.chk 5,.chk 12] (.step 8 [.op 8,.chk 12] (.step 15 [.op 15] (.step 16 [.op 16] (.step 17 [.op 17] (.step 18 [.op 18] (.step 19 [.op 19] (.step 20 [.op 20] (.step 21 [.op 21] (.lin [])))))))))) (.stop))))))))))))))) hw (by kernel_rfl) (by kernel_rfl) ?_;clear hw;intro w hw
  repeat' (first
   | refine qaa ?_
   | (refine qai ?_;clear hw;intro w hw)
   | refine qaw ?_ ?_
   | exact qaM
   | (refine qah tVal (x1:=.pointer (some q)) rfl rfl rfl (Nat.le_of_ble_eq_true rfl) (Nat.zero_lt_succ _) hw ?_;clear hw;intro bq w hw)
   | (refine qah tVal (x1:=sv) rfl osv rfl (Nat.le_of_ble_eq_true rfl) (Nat.zero_lt_succ _) hw ?_;clear hw;intro bs w hw)
   | (refine qaJ (s:=dv) (s2:=bq) inferInstance rfl rfl (rsO hw) rfl rfl (fun x hx v hv=>by rw [List.mem_singleton.1 hx] at hv;rw [List.mem_singleton.1 hv];rfl) (by simp only [List.length_cons,List.length_nil];omega) (by unfold big;simp only [List.length_cons,List.length_nil];omega) hw ?_;clear hw;intro dv2 w hw)
   | (refine qaJ (s:=pv) (s2:=bs) inferInstance rfl rfl (rsO hw) rfl rfl (fun x hx v hv=>by rw [List.mem_singleton.1 hx] at hv;rw [List.mem_singleton.1 hv];exact RS.one (rsO (s:=sv) hw)) (by simp only [List.length_cons,List.length_nil];omega) (by unfold big;simp only [List.length_cons,List.length_nil];omega) hw ?_;clear hw;intro pv2 w hw))
  all_goals (
   have hw2:Sat w0 w [OS tInt 3 lv (leftK (costsT t) (Ps++[S]) (k+1)),OS tInt 3 sv S,DbO q (dbI t (Ls.getD k []) D),RdH (DbF t Ls qs Ds),RdH (PaF ps Ps),OS tVal 165 dv2 (qs++[.pointer (some q)]),OS tVal 22 pv2 (ps++[sv]),Box pp 164 [vv,dv2,pv2],OS tInt 3 vv t.vars,Box pt 26 [a,b,c,d]]:=hw.tail.tail
   have hw1:Sat w0 w [DbO q (dbI t (Ls.getD k []) D),RdH (DbF t Ls qs Ds),OS tInt 3 sv S,RdH (PaF ps Ps),OS tInt 3 lv (leftK (costsT t) (Ps++[S]) (k+1)),OS tVal 165 dv2 (qs++[.pointer (some q)]),OS tVal 22 pv2 (ps++[sv]),Box pp 164 [vv,dv2,pv2],OS tInt 3 vv t.vars,Box pt 26 [a,b,c,d]]:=hw2.sel
   have hw3:=Sat.rd2 (χ:=DbF t Ls (qs++[.pointer (some q)]) (Ds++[D])) (fun w h1 h2=>h2.snoc (by rw [hDsl];exact h1)) (Sat.rd (Δ:=[DbO q (dbI t (Ls.getD k []) D)]) (φ:=fun w=>RDb w q (dbI t (Ls.getD k []) D)) (fun _ _ h=>satRdb h 0 rfl) hw1)
   have hw4:Sat w0 w [OS tInt 3 sv S,RdH (PaF ps Ps),RdH (DbF t Ls (qs++[.pointer (some q)]) (Ds++[D])),OS tInt 3 lv (leftK (costsT t) (Ps++[S]) (k+1)),OS tVal 165 dv2 (qs++[.pointer (some q)]),OS tVal 22 pv2 (ps++[sv]),Box pp 164 [vv,dv2,pv2],OS tInt 3 vv t.vars,Box pt 26 [a,b,c,d]]:=hw3.sel
   have hw5:=Sat.rd2 (χ:=PaF (ps++[sv]) (Ps++[S])) (fun w h1 h2=>h2.snoc h1) (Sat.rd (Δ:=[OS tInt 3 sv S]) (φ:=fun w=>RS tInt w sv S) (fun _ _ h=>h.rs 0 rfl) hw4)
   exact⟨(k+1,dv2,pv2,qs++[.pointer (some q)],ps++[sv],Ds++[D],Ps++[S]),⟨rfl,trivial⟩,agr,⟨hkl,hR2,by simp [hql],by simp [hpl],hw5.sel⟩,by simp only;omega⟩)
 ·have hke:k=Ls.length:=by omega
  subst hke
  rw [List.take_length] at hR
  repeat refine qaa ?_
  have hw1:Sat w0 w [RdH (DbF t Ls qs Ds),RdH (PaF ps Ps),OS tVal 165 dv qs,OS tVal 22 pv ps,Box pp 164 [vv,dv,pv],OS tInt 3 vv t.vars]:=hw.sel
  have hw2:=Sat.rd (Δ:=[RdH (DbF t Ls qs Ds),RdH (PaF ps Ps),OS tVal 165 dv qs,OS tVal 22 pv ps,Box pp 164 [vv,dv,pv],OS tInt 3 vv t.vars]) (Γ:=[]) (φ:=fun w=>RPt w pp t Ls Ds Ps) (fun _ w h=>⟨vv,dv,pv,qs,ps,h.boxR 4 rfl,h.rs 5 rfl,h.rs 2 rfl,h.rdE 0 rfl,h.rs 3 rfl,h.rdE 1 rfl⟩) hw1
  exact qav (v:=.pointer (some pp)) (v':=.nilIface) rfl rfl rfl (.inr ⟨hbe,hg,hL32,hpe,pp,Ds,Ps,rfl,hR,hw2⟩)
end Go.Proofs.YtkmbenhffledpaaGreat
