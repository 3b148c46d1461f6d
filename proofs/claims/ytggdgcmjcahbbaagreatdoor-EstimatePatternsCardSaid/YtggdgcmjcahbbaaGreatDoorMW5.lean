/-
  Several texts as one: WTgt, WProject, WSys, WDist.
-/
import Derived.Test.YtggdgcmjcahbbaaGreatDoorMW4
import Derived.Test.YtggdgcmjcahbbaaGreatDoorMTA
import Derived.Test.YtggdgcmjcahbbaaGreatDoorMSlB
import Derived.Test.YtggdgcmjcahbbaaGreatDoorMW2
set_option linter.unusedSimpArgs false
set_option linter.unusedVariables false
/-
  Contract of 'project.targets'.
-/
namespace Go.Proofs.YtggdgcmjcahbbaaGreatDoor
open Go.Sl Go
attribute [local irreducible] vc opsW opsD opV opW PureV ReadV Thn Blk
theorem qjM (l:List Int):compL l=((List.range l.length).filter fun j=>decide (j=0∨l.getD j tInt.dflt≠l.getD (j-1) tInt.dflt)).map fun j=>l.getD j tInt.dflt:=by
 have e:∀ j,l.toArray[j]! = l.getD j tInt.dflt:=fun j=>by
  simp [getElem!_def,List.getD]
  cases l[j]? <;> rfl
 unfold compL Lib.compact Lib.compactUpTo Lib.keeps
 simp only [e]
theorem qmi {l:List Int}{x:Int}:x∈compL l↔x∈l:=by
 rw [qjM]
 simp only [List.mem_map,List.mem_filter,List.mem_range,decide_eq_true_eq]
 constructor
 ·rintro⟨j,⟨hj,_⟩,rfl⟩;exact qah _ hj
 ·intro hx
  obtain⟨i,hi,he⟩:=List.mem_iff_getElem.1 hx
  have key:∀ i,i<l.length→∃ j,(j<l.length∧(j=0∨l.getD j tInt.dflt≠l.getD (j-1) tInt.dflt))∧l.getD j tInt.dflt=l.getD i tInt.dflt:=by
   intro i
   induction i with
   | zero=>intro h;exact⟨0,⟨h,.inl rfl⟩,rfl⟩
   | succ i ih =>
    intro h
    by_cases hh:l.getD (i+1) tInt.dflt=l.getD i tInt.dflt
    ·obtain⟨j,h1,h2⟩:=ih (by omega)
     exact⟨j,h1,h2.trans hh.symm⟩
    ·exact⟨i+1,⟨h,.inr hh⟩,rfl⟩
  obtain⟨j,h1,h2⟩:=key i hi
  exact⟨j,h1,by rw [h2,qak hi,he]⟩
theorem qmj {l:List Int}(h:l.Pairwise (·≤·)):(compL l).Pairwise (·<·):=by
 rw [qjM,List.pairwise_map]
 have hle:∀ i j,i≤j→j<l.length→l.getD i tInt.dflt≤l.getD j tInt.dflt:=fun i j hij hj=>by
  rcases Nat.lt_or_ge i j with h'|h'
  ·rw [qak (by omega),qak hj];exact List.pairwise_iff_getElem.1 h _ _ _ _ h'
  ·have:i=j:=by omega
   subst this;exact Int.le_refl _
 refine (List.pairwise_lt_range.filter _).imp_of_mem fun {i j} hi hj hij => ?_
 simp only [List.mem_filter,List.mem_range,decide_eq_true_eq] at hi hj
 have h1:=hle i (j-1) (by omega) (by omega)
 have h2:=hle (j-1) j (by omega) hj.1
 have h3:=hj.2.resolve_left (by omega)
 omega
theorem qn2 {vars p s:List Int}{l:List Eff}(hs:StateOk vars s):(∀ e∈l,EffOk vars e)→StateOk vars (effsP p s l):=by
 refine qaw (P:=fun l=>(∀ e∈l,EffOk vars e)→StateOk vars (effsP p s l)) (fun _=>hs) ?_ l
 intro l e ih h
 have h1:=ih fun x hx=>h x (by simp [hx])
 rw [qbu]
 split
 ·obtain⟨a,b,c,d⟩:=qaL (h e (by simp))
  exact qcX h1 a c d
 ·exact h1
set_option maxRecDepth 8000 in
set_option maxHeartbeats 4000000 in
theorem qh4 {w0:World}{a b c d vp vf:Value}{vs:List OpV}{t:TTask}{L:List Int}{op:Nat}{fro:Int}(ht:RTask w0 a b c d vs t) (hp:RS tInt w0 vp L) (hf:RS tInt w0 vf (frL t L op))
  (hg:GoodT t) (hL:InV t.vars L) (ho:op<t.ops.length) (h0:0≤fro) (h1:fro<cntL t.vars L) (hB:cntL t.vars L≤4096) (hB2:cntL t.vars (frL t L op)≤4096) :
  Calls Tryz.prog 53 #[.agg #[a,b,c,d],.int .i64 op,vp,vf,.int .i64 fro] w0 fun e w'=>∃ s,e=.returned s∧Sat w0 w' [OS tInt 3 s (tgtL t L fro op)]:=by
 have ht':=ht
 obtain⟨ha,hb,hc,hd⟩:=ht
 have hrs:=hd.rs
 have hdl:=hd.len
 have hla:=ha.big
 have hll:=hrs.big
 have hvl:=hg.vars
 have hop:ROp w0 (eget tOp vs op) (opT t op):=hd.at_ op ho
 have hone:=hop.one
 obtain⟨es,hes⟩:=hop.effs
 have hers:=hes.rs
 have hel:=hes.len
 have heb:=hers.big
 have hpr:=hop.pre
 have hgo:OpOk t.vars (opT t op):=hg.op op ho
 have he64:=hgo.effs
 have hpl:=qaO hgo.pre
 have hfv:InV t.vars (frL t L op):=qcb _ _ _
 obtain⟨hs1,hi1⟩:=qhr hg hL h0 h1
 have hs2:=qov (op:=op) hg hL ho h0 h1
 have hw:=Sat.start w0
 refine qab (args:=[.agg #[a,b,c,d],.int .i64 op,vp,vf,.int .i64 fro]) mixed Tryz.func53 rfl (by kernel_rfl) (Nat.le_of_ble_eq_true rfl) ?_
 refine qdS ?_
 refine qa6 ?_
 refine qe9 ?_
 clear hw
 intro pt w hw
 repeat (first|refine qaa ?_|(refine qaf ?_;clear hw;intro p w hw)|(refine qag ?_;clear hw;intro w hw)|(refine qap ?_;clear hw;intro s w hw))
 obtain⟨po,hpo⟩:∃ po,po=p:=⟨p,rfl⟩
 subst hpo
 obtain⟨sv,hsv⟩:∃ sv,sv=s:=⟨s,rfl⟩
 subst hsv
 refine qad rfl (qg6 (s:=sv) (L:=L) (st:=zerosL t.vars.length) ht' hp hw hg.pos hL.mem (qbQ _) h0 (by omega)) ?_
 clear hw
 rintro _ w ⟨rfl,hw⟩
 refine⟨_,rfl,?_⟩
 repeat refine qaa ?_
 refine qaj [10,14,39,40,41,42,43,44,45,46,47,48,49,50,51,52,53,54,55,56,57,58,59,60,61] (G:=Nat) (fun k=>[(39,.int .i64 k)]) (fun k w=>k≤(opT t op).pre.length∧PreIn L (st1 t L fro) ((opT t op).pre.take k)∧Sat w0 w [OS tInt 3 sv (preS L (st1 t L fro) ((opT t op).pre.take k)),Box po 49 (tOp.enc (eget tOp vs op)),Box pt 26 [a,b,c,d]]) (fun k=>(opT t op).pre.length-k) 0 (fun _=>rfl) ⟨rfl,trivial⟩ ⟨Nat.zero_le _,fun x hx=>by simp at hx,hw⟩ ?_
 clear hw
 rintro σ k w ⟨hk,hpi,hw⟩
 repeat refine qaa ?_
 refine go_if (fun h2 => ?_) (fun h2 => ?_)
 ·have hkl:k<(opT t op).pre.length:=by omega
  have hsn:=qcc L (st1 t L fro) ((opT t op).pre.take k) ((opT t op).pre.getD k tFact.dflt)
  rw [←qal tFact.dflt hkl] at hsn
  have hfx:=(opFacts hg ho).1 _ (qah tFact.dflt hkl)
  have hln:=qjq L (st1 t L fro) ((opT t op).pre.take k)
  have hs1l:=hs1.1
  obtain⟨f1,f2,f3,f4⟩:=hfx
  repeat (first|refine qaa ?_|(refine qaf ?_;clear hw;intro p w hw)|(refine qag ?_;clear hw;intro w hw))
  refine qad rfl (qau (hp.at hw)) ?_
  rintro _ w' ⟨rfl,hk'⟩
  replace hw:=hw.call0 hk'
  clear hk'
  by_cases hm:((opT t op).pre.getD k tFact.dflt).var∈L
  ·have hsame:(preS L (st1 t L fro) ((opT t op).pre.take k)).getD ((opT t op).pre.getD k tFact.dflt).var.toNat tInt.dflt=sg (st1 t L fro) ((opT t op).pre.getD k tFact.dflt).var :=
    qfI f1 (fun x hx=>(opFacts hg ho).1 x (List.mem_of_mem_take hx)) fun x _ hx e=>hx (e ▸ hm)
   rw [decide_eq_true hm]
   refine⟨_,rfl,?_⟩
   repeat (first|refine qaa ?_|(refine qag ?_;clear hw;intro w hw))
   refine go_if (fun h3 => ?_) (fun h3 => ?_)
   ·repeat refine qaa ?_
    refine qae (v:=.slice none 0 0) rfl rfl ⟨_,rfl,?_⟩
    rw [qnx hg hL h0 h1 fun h=>h3 (by rw [hsame];exact h _ (qah tFact.dflt hkl) hm)]
    exact hw.tail.tail.tail.tail.nil
   ·repeat refine qaa ?_
    refine⟨k+1,⟨rfl,trivial⟩,agr,⟨by omega,?_,?_⟩,by omega⟩
    ·rw [qal tFact.dflt hkl]
     intro x hx hxp
     rcases List.mem_append.1 hx with hx|hx
     ·exact hpi x hx hxp
     ·rw [List.mem_singleton.1 hx,←hsame];omega
    ·rw [hsn,if_pos hm];exact hw.tail
  ·rw [decide_eq_false hm]
   refine⟨_,rfl,?_⟩
   repeat (first|refine qaa ?_|(refine qag ?_;clear hw;intro w hw))
   refine⟨k+1,⟨rfl,trivial⟩,agr,⟨by omega,?_,?_⟩,by omega⟩
   ·rw [qal tFact.dflt hkl]
    intro x hx hxp
    rcases List.mem_append.1 hx with hx|hx
    ·exact hpi x hx hxp
    ·rw [List.mem_singleton.1 hx] at hxp;exact absurd hxp hm
   ·rw [hsn,if_neg hm];exact hw.tail
 ·rw [List.take_of_length_le (by omega)] at hpi hw
  have hfin:=fun b=>qpS (b:=b) hg hL ho h0 h1 hpi
  repeat refine qaa ?_
  refine qad rfl (qdR (ht'.at hw) (hf.at hw) hg hfv.mem) ?_
  rintro _ w' ⟨rfl,hk'⟩
  replace hw:=hw.call0 hk'
  clear hk'
  rw [if_pos hB2]
  refine⟨_,rfl,?_⟩
  repeat refine qaa ?_
  obtain⟨N,hN⟩:∃ N,N=cntL t.vars (frL t L op):=⟨_,rfl⟩
  have hN1:=qeb hg.pos hfv.mem
  rw [←hN] at hfin hN1 hB2 ⊢
  refine qd8 [17,18,19,21,69,70,71,72,73,74,75,76,77,78,79,80,81,82,83,84,85,86,87,88,89,90,91,92,93,94,95,96,97,98,99,100,101,102,103,104,105,106,107,108,109,110] (G:=Nat) (H:=Value) (I:=List Int) (M:=List Int) (fun k so _ _=>[(69,.int .i64 k),(17,so)]) (fun k so xs S w=>k≤N∧xs.length=k∧(∀ b,b∈xs↔OutOf t L op fro k b)∧StateOk t.vars S∧(∀ v,0≤v→v∉frL t L op→sg S v=sg (st2 t L op fro) v)∧Sat w0 w [OS tInt 3 so xs,OS tInt 3 sv S,Box po 49 (tOp.enc (eget tOp vs op)),Box pt 26 [a,b,c,d]]) (fun k _ _ _=>N.toNat-k) 0 (.slice none 0 0) [] (st2 t L op fro) (fun _ _ _ _=>rfl) ⟨rfl,rfl,trivial⟩ ⟨by omega,rfl,fun b=>⟨fun h=>by simp at h,fun⟨S,hS,_,hlt,_⟩=>absurd (qaK hS hfv.mem).1 (by omega)⟩,hs2,fun _ _ _=>rfl,hw.nil⟩ ?_
  clear hw
  rintro σ k so xs S w ⟨hk,hxl,hmem,hS,hag,hw⟩
  repeat refine qaa ?_
  refine go_if (fun h3 => ?_) (fun h3 => ?_)
  ·have hk0:(0:Int)≤k:=by omega
   have hkN:(k:Int)<cntL t.vars (frL t L op):=by omega
   have hq:=qco (s:=S) hg.pos hfv hS.1 hk0 hkN
   have hSo:=qgm (s:=S) hg.pos hfv hk0 hkN hS.1 fun v hv hv' _=>hS.rng hv hv'
   have hag':∀ v,0≤v→v∉frL t L op→sg (putS t.vars (frL t L op) S k) v=sg (st2 t L op fro) v:=fun v hv hn=>by rw [hq.2.2 v hv hn,hag v hv hn]
   have hos:=fun b=>qny (b:=b) hg hL ho hSo hag' hq.1
   repeat refine qaa ?_
   refine qad rfl (qg6 (s:=sv) (L:=frL t L op) (st:=S) ht' hf hw.swap hg.pos hfv.mem hS.1 hk0 (by omega)) ?_
   clear hw
   rintro _ w ⟨rfl,hw⟩
   refine⟨_,rfl,?_⟩
   obtain⟨S',hS'⟩:∃ S',S'=putS t.vars (frL t L op) S k:=⟨_,rfl⟩
   rw [←hS'] at hw hSo hag' hos
   have hSl:=hSo.1
   clear hS hag hq
   repeat refine qaa ?_
   refine qad rfl (qaE (a:=sv) (xs:=S') (rsO hw) (by omega)) ?_
   rintro _ w' ⟨sn,rfl,hk'⟩
   replace hw:=hw.call1 hk'
   clear hk'
   refine⟨_,rfl,?_⟩
   repeat refine qaa ?_
   refine qaj [21,82,83,84,85,86,87,88,89,90,91,92,93,94,95,96,97,98,99,100,101,102] (G:=Nat) (fun j=>[(82,.int .i64 j)]) (fun j w=>j≤(opT t op).effs.length∧Sat w0 w [OS tInt 3 sn (effsP L S' ((opT t op).effs.take j)),OS tInt 3 sv S',OS tInt 3 so xs,Box po 49 (tOp.enc (eget tOp vs op)),Box pt 26 [a,b,c,d]]) (fun j=>(opT t op).effs.length-j) 0 (fun _=>rfl) ⟨rfl,trivial⟩ ⟨Nat.zero_le _,hw⟩ ?_
   clear hw
   rintro σ1 j w ⟨hj,hw⟩
   repeat refine qaa ?_
   refine go_if (fun h4 => ?_) (fun h4 => ?_)
   ·have hjl:j<(opT t op).effs.length:=by omega
    have hek:=hes.at_ j hjl
    have hwh:=hek.when
    have hone2:=hek.one
    have hv1:=hek.var
    have hv2:=hek.val
    obtain⟨r1,r2,r3,r4⟩:=qaL (hgo.eff j hjl)
    have hsn:=qbu L S' ((opT t op).effs.take j) ((opT t op).effs.getD j dEff)
    rw [←qal dEff hjl] at hsn
    have hln:=qdj L S' ((opT t op).effs.take j)
    repeat (first|refine qaa ?_|(refine qaf ?_;clear hw;intro p w hw)|(refine qag ?_;clear hw;intro w hw))
    refine qad rfl (qau (hp.at hw)) ?_
    rintro _ w' ⟨rfl,hk'⟩
    replace hw:=hw.call0 hk'
    clear hk'
    by_cases hm:(eget tEff es j).var∈L
    ·rw [decide_eq_true hm]
     refine⟨_,rfl,?_⟩
     repeat refine qaa ?_
     refine qad rfl (qfh (b:=sv) (s:=S') (hwh.at hw) (rsO hw)) ?_
     rintro _ w' ⟨⟨r,rfl,hr⟩,hk'⟩
     replace hw:=hw.call0 hk'
     clear hk'
     refine⟨_,rfl,?_⟩
     cases r with
     | false =>
      repeat refine qaa ?_
      refine⟨j+1,⟨rfl,trivial⟩,agr,⟨by omega,?_⟩,by omega⟩
      rw [hsn,if_neg fun h=>by have:=hr.2 h.2;cases this]
      exact hw.tail
     | true =>
      repeat (first|refine qaa ?_|(refine qag ?_;clear hw;intro w hw))
      refine⟨j+1,⟨rfl,trivial⟩,agr,⟨by omega,?_⟩,by omega⟩
      rw [hsn,if_pos ⟨hv1 ▸ hm,hr.1 rfl⟩,←hv1,←hv2]
      exact hw.tail
    ·rw [decide_eq_false hm]
     refine⟨_,rfl,?_⟩
     repeat refine qaa ?_
     refine⟨j+1,⟨rfl,trivial⟩,agr,⟨by omega,?_⟩,by omega⟩
     rw [hsn,if_neg fun h=>hm (hv1 ▸ h.1)]
     exact hw.tail
   ·rw [List.take_of_length_le (by omega)] at hw
    have hok:=qn2 (p:=L) hSo hgo.mem
    repeat refine qaa ?_
    refine qad rfl (qfo (sv:=sn) (s:=effsP L S' (opT t op).effs) (ht'.at hw) (hp.at hw) (rsO hw) hg hL.mem hok (by omega)) ?_
    rintro _ w' ⟨rfl,hk'⟩
    replace hw:=hw.call0 hk'
    clear hk'
    refine⟨_,rfl,?_⟩
    repeat (first|refine qaa ?_|(refine qap ?_;clear hw;intro s w hw))
    refine⟨k+1,_,xs++[idxL t.vars L (effsP L S' (opT t op).effs)],S',⟨rfl,rfl,trivial⟩,agr,⟨by omega,by simp [hxl],fun b => ?_,hSo,hag',?_⟩,by omega⟩
    ·rw [List.mem_append,List.mem_singleton,hmem b,Int.natCast_add,Int.natCast_one,hos b]
    ·exact hw.tail.tail.swap
  ·have hkN:(k:Int)=N:=by omega
   rw [hkN] at hmem
   repeat refine qaa ?_
   refine qad rfl (qh5 (s:=so) hw (by omega)) ?_
   clear hw
   rintro _ w ⟨rfl,hw⟩
   refine⟨_,rfl,?_⟩
   repeat refine qaa ?_
   refine qad rfl (qh6 (s:=so) hw (by rw [qe8];omega)) ?_
   clear hw
   rintro _ w ⟨s',rfl,hw⟩
   refine⟨_,rfl,?_⟩
   repeat refine qaa ?_
   refine qae (v:=s') rfl rfl ⟨s',rfl,?_⟩
   have e:compL (sortL xs)=tgtL t L fro op:=by
    refine qgn (qmj (qjP xs)) fun u => ?_
    rw [qmi,qhQ,hmem u,hfin u]
    constructor
    ·intro h
     have h':=(hfin u).2 h
     exact⟨qpT hg hL ho h',h⟩
    ·exact fun h=>h.2
   rw [e] at hw
   exact hw.only
end Go.Proofs.YtggdgcmjcahbbaaGreatDoor
/-
  Contract of 'project.Project'.
-/
namespace Go.Proofs.YtggdgcmjcahbbaaGreatDoor
open Go.Sl Go
attribute [local irreducible] vc opsW opsD opV opW PureV ReadV Thn Blk
noncomputable def pErr (t:TTask) (p:List Int):Int:=if chkP t p≠0 then chkP t p else pErr0 t p
theorem qem {t:TTask}{p:List Int}:chkP t p=0↔GoodT t∧PatOk t.vars p:=by
 rw [←qaM]
 unfold chkP
 by_cases h:checkT t=0
 ·rw [if_neg (by simp [h])]
  by_cases h2:PatOk t.vars p
  ·rw [if_pos h2];exact⟨fun _=>⟨h,h2⟩,fun _=>rfl⟩
  ·rw [if_neg h2];exact⟨(fun e=>by cases e),fun e=>absurd e.2 h2⟩
 ·rw [if_pos h];exact⟨fun e=>absurd e h,fun e=>absurd e.1 h⟩
theorem qid {t:TTask}{p:List Int}(h:chkP t p=0):pErr t p=pErr0 t p:=by rw [pErr,if_neg (by simp [h])]
noncomputable def frI (t:TTask) (L:List Int) (i:Nat):List (List Int):=(List.range t.ops.length).map fun op=>if op<i then frL t L op else []
theorem qen (t:TTask) (L:List Int) (i:Nat):(frI t L i).length=t.ops.length:=by simp [frI]
theorem qm6 (t:TTask) (L:List Int):frI t L 0=List.replicate t.ops.length []:=by
 apply List.ext_getElem (by simp [frI])
 intro i h1 h2;simp [frI]
theorem qor {t:TTask}{L:List Int}{i j:Nat}(hj:j<i) (hj2:j<t.ops.length):(frI t L i).getD j []=frL t L j:=by simp [frI,List.getD,hj,hj2]
theorem qm7 {t:TTask}{L:List Int}{i:Nat}(hi:i<t.ops.length):(frI t L i).set i (frL t L i)=frI t L (i+1):=by
 apply List.ext_getElem (by simp [frI])
 intro j h1 h2
 rw [List.getElem_set]
 simp only [frI,List.getElem_map,List.getElem_range]
 split
 ·rename_i e;subst e;rw [if_pos (by omega)]
 ·by_cases h:j<i
  ·rw [if_pos h,if_pos (by omega)]
  ·rw [if_neg h,if_neg (by omega)]
theorem qbr {w0 w:World}{Γ:List HP}(hw:Sat w0 w Γ):Sat w0 w []:=⟨hw.below,trivial⟩
theorem sat3 {w0 w:World}{A B C:HP}{Γ:List HP}(h:Sat w0 w (A::B::C::Γ)):Sat w0 w [A,B,C]:=h.tailMono fun _ h=>SatL.cons_mono (fun _ h=>h) (fun _ h=>SatL.cons_mono (fun _ h=>h) (fun _ _=>trivial) h) h
def SysAt (w0 w:World) (cv ev gv:Value) (S:SysV):Prop:=Sat w0 w [OS tInt 3 cv S.costs,OS tEdg 118 ev S.edges,OS tBool 4 gv S.goals]
theorem qc3 {w0 w:World}{Γ:List HP}(hw:Sat w0 w Γ):SysAt w0 w (.slice none 0 0) (.slice none 0 0) (.slice none 0 0) sysNo:=(qbr hw).nil.nil.nil
def sysV (S:SysV) (cv ev gv:Value):Value:=.agg #[.int .i64 S.st,.int .i64 S.ini,cv,ev,gv]
set_option maxRecDepth 8000 in
set_option maxHeartbeats 4000000 in
theorem qcn {w0:World}{a b c d vp:Value}{vs:List OpV}{t:TTask}{L:List Int}(ht:RTask w0 a b c d vs t) (hp:RS tInt w0 vp L) :
  Calls Tryz.prog 24 #[.agg #[a,b,c,d],vp] w0 fun e w'=>∃ cv ev gv,e=.returned (.tuple #[sysV (sysE t L (pErr t L)) cv ev gv,errV (pErr t L)])∧SysAt w0 w' cv ev gv (sysE t L (pErr t L)):=by
 have ht':=ht
 obtain⟨ha,hb,hc,hd⟩:=ht
 have hrs:=hd.rs
 have hdl:=hd.len
 have hla:=ha.big
 have hll:=hrs.big
 have hcb:=hc.big
 have hw:=Sat.start w0
 refine qab (args:=[.agg #[a,b,c,d],vp]) mixed Tryz.func24 rfl (by kernel_rfl) (Nat.le_of_ble_eq_true rfl) ?_
 refine qdS ?_
 refine qa6 ?_
 refine qe9 ?_
 clear hw
 intro pt w hw
 refine qek ?_
 clear hw
 intro pr w hw
 repeat refine qaa ?_
 refine qad rfl (qi5 (ht'.at hw) (hp.at hw)) ?_
 rintro _ w' ⟨rfl,hk'⟩
 replace hw:=hw.call0 hk'
 clear hk'
 refine⟨_,rfl,?_⟩
 by_cases hk:chkP t L=0
 ·rw [qat hk]
  obtain⟨hg,hpo⟩:=qem.1 hk
  have hL:=hpo.inV
  rw [qid hk]
  have hvl:=hg.vars
  have hol:=hg.ops
  repeat refine qaa ?_
  refine qad rfl (qdR (ht'.at hw) (hp.at hw) hg hL.mem) ?_
  rintro _ w' ⟨rfl,hk'⟩
  replace hw:=hw.call0 hk'
  clear hk'
  by_cases hB:cntL t.vars L≤4096
  ·rw [if_pos hB]
   refine⟨_,rfl,?_⟩
   repeat refine qaa ?_
   refine qad rfl (qfo (s:=t.init) (ht'.at hw) (hp.at hw) (hb.at hw) hg hL.mem hg.init (by omega)) ?_
   rintro _ w' ⟨rfl,hk'⟩
   replace hw:=hw.call0 hk'
   clear hk'
   refine⟨_,rfl,?_⟩
   repeat (first|refine qaa ?_|(refine qaf ?_;clear hw;intro p w hw)|(refine qag ?_;clear hw;intro w hw)|(refine qap ?_;clear hw;intro s w hw))
   obtain⟨px,hpx⟩:∃ px,px=p:=⟨p,rfl⟩
   subst hpx
   obtain⟨fv,hfv⟩:∃ fv,fv=s:=⟨s,rfl⟩
   subst hfv
   rw [hdl] at hw
   have hw1:=(hw.rowsNil (T:=tInt) (e:=3) t.ops.length).nil (T:=tInt) (e:=3)
   rw [←qm6 t L] at hw1
   clear hw
   refine qaJ [5,11,12,13,14,54,55,56,57,58,59,60,61,62,63,64,65,66,67,68,69,70,71,72,73,74,75,76,77,78,79,80,81,82,83,84,85] (G:=Nat) (H:=Value) (I:=List Value) (fun i _ _=>[(54,.int .i64 i)]) (fun i cv fs w=>i≤t.ops.length∧(∀ op,op<i→cntL t.vars (frL t L op)≤4096)∧Sat w0 w [OS tInt 3 cv ((costsT t).take i),RowsAt tInt 3 fs (frI t L i),OS tVal 22 fv fs,Box px 58 [.int .i64 (cntL t.vars L),.int .i64 (idxL t.vars L t.init),cv,.slice none 0 0,.slice none 0 0],Box pr 58 [.int .i64 0,.int .i64 0,.slice none 0 0,.slice none 0 0,.slice none 0 0],Box pt 26 [a,b,c,d]]) (fun i _ _=>t.ops.length-i) 0 (.slice none 0 0) (List.replicate t.ops.length (.slice none 0 0)) (fun _ _ _=>rfl) ⟨rfl,trivial⟩ ⟨Nat.zero_le _,fun op h=>absurd h (Nat.not_lt_zero _),hw1⟩ ?_
   clear hw1
   rintro σ i cv fs w ⟨hi,hfr,hw⟩
   repeat refine qaa ?_
   refine go_if (fun h1 => ?_) (fun h1 => ?_)
   ·have hil:i<t.ops.length:=by omega
    have hop:=hd.at_ i hil
    have hone:=hop.one
    have hco:=hop.cost
    have hfs:fs.length=t.ops.length:=by have:=(hw.focus 1 rfl).rowsLen;rw [qen] at this;exact this
    have hct:((costsT t).take i).length≤4096:=by simp [costsT];omega
    repeat (first|refine qaa ?_|(refine qaf ?_;clear hw;intro p w hw)|(refine qag ?_;clear hw;intro w hw)|(refine qap ?_;clear hw;intro s w hw))
    refine qad rfl (qh7 (vars:=t.vars) (L:=L) (hop.at hw) (hp.at hw) (hg.op i hil) hvl) ?_
    rintro _ w' ⟨sf,rfl,hk'⟩
    replace hw:=hw.call1 hk'
    clear hk'
    refine⟨_,rfl,?_⟩
    have hfs2:(fs.set i sf).length=t.ops.length:=by simp [hfs]
    repeat (first|refine qaa ?_|(refine qag ?_;clear hw;intro w hw))
    have hw2:=(((hw.focus 4 rfl).swap.rowNew (by rw [qen];exact hil)).swap.tail.swap.tail).swap
    rw [show freeL t.vars (t.ops.getD i dOp) L=frL t L i from rfl,qm7 hil] at hw2
    have hrow:=(hw2.swap).row (i:=i) (by rw [qen];exact hil)
    rw [qor (Nat.lt_succ_self i) hil] at hrow
    clear hw
    have hw:Sat w0 w [OS tInt 3 s ((costsT t).take i++[(eget tOp vs i).cost]),RowsAt tInt 3 (fs.set i sf) (frI t L (i+1)),OS tVal 22 fv (fs.set i sf),Box px 58 [.int .i64 (cntL t.vars L),.int .i64 (idxL t.vars L t.init),s,.slice none 0 0,.slice none 0 0],Box pr 58 [.int .i64 0,.int .i64 0,.slice none 0 0,.slice none 0 0,.slice none 0 0],Box pt 26 [a,b,c,d]]:=hw2
    clear hw2
    have hcs:(costsT t).take i++[(eget tOp vs i).cost]=(costsT t).take (i+1):=by
     rw [qal tInt.dflt (show i<(costsT t).length by simp [costsT];exact hil),qhn hil,hco]
    rw [hcs] at hw
    refine qad rfl (qdR (ht'.at hw) hrow hg (qcb _ _ _).mem) ?_
    rintro _ w' ⟨rfl,hk'⟩
    replace hw:=hw.call0 hk'
    clear hk'
    by_cases hB3:cntL t.vars (frL t L i)≤4096
    ·rw [if_pos hB3]
     refine⟨_,rfl,?_⟩
     repeat refine qaa ?_
     refine⟨i+1,_,_,⟨rfl,trivial⟩,agr,⟨by omega,fun op h => ?_,hw⟩,by omega⟩
     by_cases e:op=i
     ·subst e;exact hB3
     ·exact hfr op (by omega)
    ·rw [if_neg hB3]
     refine⟨_,rfl,?_⟩
     repeat refine qaa ?_
     refine qbo (parts:=[]) (vs:=[]) rfl rfl rfl ?_
     repeat (first|refine qaa ?_|(refine qag ?_;clear hw;intro w hw))
     have he:pErr0 t L=5:=by rw [pErr0,if_neg (by omega),if_pos ⟨i,hil,by omega⟩]
     rw [he]
     exact qbz (p:=pr) (vs:=[.int .i64 0,.int .i64 0,.slice none 0 0,.slice none 0 0,.slice none 0 0]) rfl rfl (v':=errV 5) (by rw [qan (by decide)];rfl) rfl (fun j v hv=>qbk (i:=4) hw rfl hv) ⟨_,_,_,rfl,qc3 hw⟩
   ·have hie:i=t.ops.length:=by omega
    subst hie
    rw [List.take_of_length_le (by simp [costsT])] at hw
    have hnb:¬BigFree t L:=fun⟨op,h,h2⟩=>by have:=hfr op h;omega
    have hfs:fs.length=t.ops.length:=by have:=(hw.focus 1 rfl).rowsLen;rw [qen] at this;exact this
    have hN1:=qeb hg.pos hL.mem
    obtain⟨N,hN⟩:∃ N,N=cntL t.vars L:=⟨_,rfl⟩
    repeat (first|refine qaa ?_|(refine qap ?_;clear hw;intro s w hw))
    obtain⟨sv,hsv⟩:∃ sv,sv=s:=⟨s,rfl⟩
    subst hsv
    have hw1:Sat w0 w [OS tInt 3 sv (zerosL t.vars.length),OS tBool 4 (.slice none 0 0) (goalsK t L 0),OS tEdg 118 (.slice none 0 0) (edgA t L 0),OS tInt 3 cv (costsT t),RowsAt tInt 3 fs (frI t L t.ops.length),OS tVal 22 fv fs,Box px 58 [.int .i64 (cntL t.vars L),.int .i64 (idxL t.vars L t.init),cv,(.slice none 0 0),(.slice none 0 0)],Box pr 58 [.int .i64 0,.int .i64 0,.slice none 0 0,.slice none 0 0,.slice none 0 0],Box pt 26 [a,b,c,d]]:=(hw.nil (T:=tEdg) (e:=118)).nil (T:=tBool) (e:=4) |>.focus 2 rfl
    clear hw
    refine qd8 [5,16,17,19,20,22,91,92,93,94,95,96,97,98,99,100,101,102,103,104,105,106,107,108,109,110,111,112,113,114,115,116,117,118,119,120,121,122,123,124,125,126,127,128,129,130,131,132,133,134,135,136,137,138,139,140,141,142,143,144,145,146,147,148,149,150,151,152,153,154,155,156,157,158,159,160,161,162,163,164,165,166,167,168] (G:=Nat) (H:=Value) (I:=Value) (M:=List Int) (fun k _ _ _=>[(91,.int .i64 k)]) (fun k ev gv S w=>(k:Int)≤cntL t.vars L∧(edgA t L k).length≤65536∧StateOk t.vars S∧Sat w0 w [OS tInt 3 sv S,OS tBool 4 gv (goalsK t L k),OS tEdg 118 ev (edgA t L k),OS tInt 3 cv (costsT t),RowsAt tInt 3 fs (frI t L t.ops.length),OS tVal 22 fv fs,Box px 58 [.int .i64 (cntL t.vars L),.int .i64 (idxL t.vars L t.init),cv,ev,gv],Box pr 58 [.int .i64 0,.int .i64 0,.slice none 0 0,.slice none 0 0,.slice none 0 0],Box pt 26 [a,b,c,d]]) (fun k _ _ _=>(cntL t.vars L).toNat-k) 0 (.slice none 0 0) (.slice none 0 0) (zerosL t.vars.length) (fun _ _ _ _=>rfl) ⟨rfl,trivial⟩ ⟨by omega,by rw [qlx];exact Nat.zero_le _,qjs hg.pos,hw1⟩ ?_
    clear hw1
    rintro σ1 k ev gv S w ⟨hkN,hel,hS,hw⟩
    repeat refine qaa ?_
    refine go_if (fun h2 => ?_) (fun h2 => ?_)
    ·have hk0:(0:Int)≤k:=by omega
     have hq:=qco (s:=S) hg.pos hL hS.1 hk0 h2
     have hSo:=qgm (s:=S) hg.pos hL hk0 h2 hS.1 fun v hv hv' _=>hS.rng hv hv'
     repeat refine qaa ?_
     refine qad rfl (qg6 (s:=sv) (L:=L) (st:=S) ht' hp hw hg.pos hL.mem hS.1 hk0 (by omega)) ?_
     clear hw
     rintro _ w ⟨rfl,hw⟩
     refine⟨_,rfl,?_⟩
     obtain⟨S',hS'⟩:∃ S',S'=putS t.vars L S k:=⟨_,rfl⟩
     rw [←hS'] at hw hSo hq
     have hgp:=qnm hg hL hSo hq.1
     have hSl:=hSo.1
     clear hS hq
     repeat refine qaa ?_
     refine qao [17,19,102,103,104,105,106,107,108,109,110,111,112,113,114,115,116,117,118,119,120,121,122,123,124] (G:=Nat) (H:=Bool) (fun j g=>[(102,.int .i64 j),(17,.bool g)]) (fun j g w=>j≤t.goal.length∧(g=true↔GoalF L S' (t.goal.take j))∧Sat w0 w [OS tInt 3 sv S',OS tBool 4 gv (goalsK t L k),OS tEdg 118 ev (edgA t L k),OS tInt 3 cv (costsT t),RowsAt tInt 3 fs (frI t L t.ops.length),OS tVal 22 fv fs,Box px 58 [.int .i64 (cntL t.vars L),.int .i64 (idxL t.vars L t.init),cv,ev,gv],Box pr 58 [.int .i64 0,.int .i64 0,.slice none 0 0,.slice none 0 0,.slice none 0 0],Box pt 26 [a,b,c,d]]) (fun j _=>t.goal.length-j) 0 true (fun _ _=>rfl) ⟨rfl,rfl,trivial⟩ ⟨Nat.zero_le _,⟨fun _ x hx=>by simp at hx,fun _=>rfl⟩,hw⟩ ?_
     clear hw
     rintro σ2 j g w ⟨hj,hgl,hw⟩
     repeat refine qaa ?_
     refine go_if (fun h3 => ?_) (fun h3 => ?_)
     ·have hjl:j<t.goal.length:=by omega
      obtain⟨f1,f2,f3,f4⟩:=qa9 hg.goal _ (qah tFact.dflt hjl)
      have hsn:GoalF L S' (t.goal.take (j+1))↔GoalF L S' (t.goal.take j)∧((t.goal.getD j tFact.dflt).var∈L→sg S' (t.goal.getD j tFact.dflt).var=(t.goal.getD j tFact.dflt).val):=by
       rw [qal tFact.dflt hjl]
       unfold GoalF
       constructor
       ·exact fun h=>⟨fun x hx=>h x (by simp [hx]),h _ (by simp)⟩
       ·rintro⟨h,h'⟩ x hx
        rcases List.mem_append.1 hx with hx|hx
        ·exact h x hx
        ·rw [List.mem_singleton.1 hx];exact h'
      cases g with
      | false =>
       repeat (first|refine qaa ?_|(refine qaf ?_;clear hw;intro p w hw)|(refine qag ?_;clear hw;intro w hw))
       exact⟨j+1,false,⟨rfl,rfl,trivial⟩,agr,⟨by omega,iffF (fun h=>by have:=hgl.2 (hsn.1 h).1;cases this),hw.tail⟩,by omega⟩
      | true =>
       have hgt:=hgl.1 rfl
       repeat (first|refine qaa ?_|(refine qaf ?_;clear hw;intro p w hw)|(refine qag ?_;clear hw;intro w hw))
       refine qad rfl (qau (hp.at hw)) ?_
       rintro _ w' ⟨rfl,hk'⟩
       replace hw:=hw.call0 hk'
       clear hk'
       by_cases hm:(t.goal.getD j tFact.dflt).var∈L
       ·rw [decide_eq_true hm]
        refine⟨_,rfl,?_⟩
        repeat refine qaa ?_
        refine⟨j+1,_,⟨rfl,rfl,trivial⟩,agr,⟨by omega,?_,hw.tail⟩,by omega⟩
        rw [decide_eq_true_eq,hsn]
        exact⟨fun h=>⟨hgt,fun _=>h⟩,fun h=>h.2 hm⟩
       ·rw [decide_eq_false hm]
        refine⟨_,rfl,?_⟩
        repeat refine qaa ?_
        exact⟨j+1,true,⟨rfl,rfl,trivial⟩,agr,⟨by omega,iffT (hsn.2 ⟨hgt,fun h=>absurd h hm⟩),hw.tail⟩,by omega⟩
     ·rw [List.take_of_length_le (by omega),hgp,←qhm] at hgl
      have hgb:g=goalB t L k:=Bool.eq_iff_iff.2 hgl
      have hgkl:=qfE t L k
      subst hgb
      repeat refine qaa ?_
      refine qam tBool (x1:=goalB t L k) rfl rfl rfl (Nat.le_of_ble_eq_true rfl) (Nat.zero_lt_succ _) hw ?_
      clear hw
      intro s2 w hw
      repeat (first|refine qaa ?_|(refine qag ?_;clear hw;intro w hw)|(refine qap ?_;clear hw;intro s w hw))
      obtain⟨gw,hgw⟩:∃ gw,gw=s:=⟨s,rfl⟩
      subst hgw
      rw [←qin] at hw
      refine qao [5,20,22,134,135,136,137,138,139,140,141,142,143,144,145,146,147,148,149,150,151,152,153,154,155,156,157,158,159,160,161,162,163,164,165,166,167] (G:=Nat) (H:=Value) (fun j _=>[(134,.int .i64 j)]) (fun j ev w=>j≤t.ops.length∧(edgA t L k++edgO t L k j).length≤65536∧Sat w0 w [OS tInt 3 sv S',OS tBool 4 gw (goalsK t L (k+1)),OS tEdg 118 ev (edgA t L k++edgO t L k j),OS tInt 3 cv (costsT t),RowsAt tInt 3 fs (frI t L t.ops.length),OS tVal 22 fv fs,Box px 58 [.int .i64 (cntL t.vars L),.int .i64 (idxL t.vars L t.init),cv,ev,gw],Box pr 58 [.int .i64 0,.int .i64 0,.slice none 0 0,.slice none 0 0,.slice none 0 0],Box pt 26 [a,b,c,d]]) (fun j _=>t.ops.length-j) 0 ev (fun _ _=>rfl) ⟨rfl,trivial⟩ ⟨Nat.zero_le _,by rw [qhl,List.append_nil];exact hel,by rw [qhl,List.append_nil];exact hw.tail⟩ ?_
      clear hw
      rintro σ3 j ev w ⟨hj,hel2,hw⟩
      repeat refine qaa ?_
      refine go_if (fun h4 => ?_) (fun h4 => ?_)
      ·have hjl:j<t.ops.length:=by omega
       have hfrj:=hfr j hjl
       repeat (first|refine qaa ?_|(refine qag ?_;clear hw;intro w hw))
       have hrow:=(hw.focus 4 rfl).row (i:=j) (by rw [qen];exact hjl)
       rw [qor hjl hjl] at hrow
       refine qad rfl (qh4 (op:=j) (fro:=k) (ht'.at hw) (hp.at hw) hrow hg hL hjl hk0 h2 hB hfrj) ?_
       rintro _ w' ⟨tv,rfl,hk'⟩
       replace hw:=hw.call1 hk'
       clear hk'
       have htl:=qlG (cntL t.vars L) (TGp t L k j)
       have hlim:=qlB h2 hjl
       rw [show pickL (cntL t.vars L) (TGp t L k j)=tgtL t L k j from rfl] at htl
       obtain⟨tg,htg⟩:∃ tg,tg=tgtL t L k j:=⟨_,rfl⟩
       rw [←htg] at hw htl hlim
       refine⟨_,rfl,?_⟩
       repeat refine qaa ?_
       refine qao [5,22,147,148,149,150,151,152,153,154,155,156,157,158,159,160,161,162,163,164,165,166] (G:=Nat) (H:=Value) (fun m _=>[(147,.int .i64 m)]) (fun m ev w=>m≤tg.length∧(edgA t L k++edgO t L k j++edgB k j (tg.take m)).length≤65536∧Sat w0 w [OS tInt 3 tv tg,OS tInt 3 sv S',OS tBool 4 gw (goalsK t L (k+1)),OS tEdg 118 ev (edgA t L k++edgO t L k j++edgB k j (tg.take m)),OS tInt 3 cv (costsT t),RowsAt tInt 3 fs (frI t L t.ops.length),OS tVal 22 fv fs,Box px 58 [.int .i64 (cntL t.vars L),.int .i64 (idxL t.vars L t.init),cv,ev,gw],Box pr 58 [.int .i64 0,.int .i64 0,.slice none 0 0,.slice none 0 0,.slice none 0 0],Box pt 26 [a,b,c,d]]) (fun m _=>tg.length-m) 0 ev (fun _ _=>rfl) ⟨rfl,trivial⟩ ⟨Nat.zero_le _,by simpa [edgB] using hel2,by simpa [edgB] using hw⟩ ?_
       clear hw
       rintro σ4 m ev w ⟨hm,hel3,hw⟩
       repeat refine qaa ?_
       refine go_if (fun h5 => ?_) (fun h5 => ?_)
       ·have hml:m<tg.length:=by omega
        have hsn:=qly (a:=k) (op:=j) hml
        have hlen3:(edgA t L k++edgO t L k j++edgB k j (tg.take m)).length=(edgA t L k).length+(edgO t L k j).length+m:=by simp [qgk];omega
        repeat refine qaa ?_
        refine go_if (fun h6 => ?_) (fun h6 => ?_)
        ·repeat refine qaa ?_
         refine qbo (parts:=[]) (vs:=[]) rfl rfl rfl ?_
         repeat (first|refine qaa ?_|(refine qag ?_;clear hw;intro w hw))
         have he:pErr0 t L=5:=by rw [pErr0,if_neg (by omega),if_neg hnb,if_pos (by omega)]
         rw [he]
         exact qbz (p:=pr) (vs:=[.int .i64 0,.int .i64 0,.slice none 0 0,.slice none 0 0,.slice none 0 0]) rfl rfl (v':=errV 5) (by rw [qan (by decide)];rfl) rfl (fun j v hv=>qbk (i:=8) hw rfl hv) ⟨_,_,_,rfl,qc3 hw⟩
        ·repeat refine qaa ?_
         refine qam tEdg (x1:=⟨k,j,tg.getD m tInt.dflt⟩) rfl rfl rfl (Nat.le_of_ble_eq_true rfl) (Nat.zero_lt_succ _) hw ?_
         clear hw
         intro s3 w hw
         repeat (first|refine qaa ?_|(refine qag ?_;clear hw;intro w hw)|(refine qap ?_;clear hw;intro s w hw))
         rw [List.append_assoc,←hsn] at hw
         refine⟨m+1,_,⟨rfl,trivial⟩,agr,⟨by omega,?_,hw.tail⟩,by omega⟩
         rw [hsn,←List.append_assoc,List.length_append,hlen3]
         simp only [List.length_cons,List.length_nil]
         omega
       ·rw [List.take_of_length_le (by omega),htg,List.append_assoc,←qdf] at hw hel3
        repeat refine qaa ?_
        exact⟨j+1,ev,⟨rfl,trivial⟩,agr,⟨by omega,hel3,hw.tail⟩,by omega⟩
      ·have hje:j=t.ops.length:=by omega
       subst hje
       rw [←qdg] at hw hel2
       repeat refine qaa ?_
       exact⟨k+1,ev,gw,S',⟨rfl,trivial⟩,agr,⟨by omega,hel2,hSo,hw⟩,by omega⟩
    ·have hkN2:k=(cntL t.vars L).toNat:=by omega
     subst hkN2
     have he:pErr0 t L=0:=by rw [pErr0,if_neg (by omega),if_neg hnb,if_neg (by unfold pEdges;omega)]
     rw [he]
     have o1:=(hw.rs 3 rfl).one
     have o2:=(hw.rs 2 rfl).one
     have o3:=(hw.rs 1 rfl).one
     repeat refine qaa ?_
     refine qaB (n:=5) (p:=pr) (vs:=[.int .i64 (cntL t.vars L),.int .i64 (idxL t.vars L t.init),cv,ev,gv]) rfl rfl hw inferInstance rfl rfl (by simp only [List.all_cons,List.all_nil,o1,o2,o3];rfl) ?_
     clear hw
     intro w hw
     repeat refine qaa ?_
     exact qbz (p:=pr) (vs:=[.int .i64 (cntL t.vars L),.int .i64 (idxL t.vars L t.init),cv,ev,gv]) rfl rfl (v':=errV 0) (by rw [qat rfl];rfl) rfl (fun j v hv=>qbk (i:=7) hw rfl hv) ⟨cv,ev,gv,rfl,sat3 ((hw.tail.focus 2 rfl).tailMono fun _ h=>h.swap)⟩
  ·rw [if_neg hB]
   refine⟨_,rfl,?_⟩
   repeat refine qaa ?_
   refine qbo (parts:=[]) (vs:=[]) rfl rfl rfl ?_
   repeat (first|refine qaa ?_|(refine qag ?_;clear hw;intro w hw))
   have he:pErr0 t L=5:=by rw [pErr0,if_pos (by omega)]
   rw [he]
   refine qbz (p:=pr) (vs:=[.int .i64 0,.int .i64 0,.slice none 0 0,.slice none 0 0,.slice none 0 0]) rfl rfl (v':=errV 5) (by rw [qan (by decide)];rfl) rfl (fun j v hv=>qbk (i:=0) hw rfl hv) ⟨_,_,_,rfl,qc3 hw⟩
 ·rw [qan hk]
  repeat refine qaa ?_
  refine qbo (parts:=[]) (vs:=[]) rfl rfl rfl ?_
  repeat (first|refine qaa ?_|(refine qag ?_;clear hw;intro w hw))
  have he:pErr t L=chkP t L:=by rw [pErr,if_pos hk]
  rw [he]
  have he2:sysE t L (chkP t L)=sysNo:=by rw [sysE,if_neg hk]
  rw [he2]
  exact qbz (p:=pr) (vs:=[.int .i64 0,.int .i64 0,.slice none 0 0,.slice none 0 0,.slice none 0 0]) rfl rfl (v':=errV (chkP t L)) (by rw [qan hk];rfl) rfl (fun j v hv=>qbk (i:=0) hw rfl hv) ⟨_,_,_,rfl,qc3 hw⟩
end Go.Proofs.YtggdgcmjcahbbaaGreatDoor
/-
  A system's three lists are read.
-/
namespace Go.Proofs.YtggdgcmjcahbbaaGreatDoor
open Go.Sl Go
structure RSys (w:World) (cv ev gv:Value) (S:SysV):Prop where
 costs:RS tInt w cv S.costs
 edges:RS tEdg w ev S.edges
 goals:RS tBool w gv S.goals
end Go.Proofs.YtggdgcmjcahbbaaGreatDoor
/-
  Contracts of 'Distances' of the base and of the reference of layer 40.
-/
namespace Go.Proofs.YtggdgcmjcahbbaaGreatDoor
open Go.Sl Go
attribute [local irreducible] vc opsW opsD opV opW PureV ReadV Thn Blk
end Go.Proofs.YtggdgcmjcahbbaaGreatDoor
