/-
  Several texts as one: WPat1, TPat, WCheckG, WFind.
-/
import Derived.Test.YtggdgcmjcahbbaaGreatDoorMW9
import Derived.Test.YtggdgcmjcahbbaaGreatDoorMTA
import Derived.Test.YtggdgcmjcahbbaaGreatDoorMW1
set_option linter.unusedSimpArgs false
set_option linter.unusedVariables false
/-
  Contracts of 'patterns.check', 'additive', 'Additive'.
-/
namespace Go.Proofs.YtggdgcmjcahbbaaGreatDoor
open Go.Sl Go
attribute [local irreducible] vc opsW opsD opV opW PureV ReadV Thn Blk
noncomputable def lErr (t:TTask) (Ls:List (List Int)):Int:=if checkT t≠0 then checkT t else if ∀ i,i<Ls.length→PatOk t.vars (Ls.getD i []) then 0 else 2
set_option maxRecDepth 8000 in
set_option maxHeartbeats 2000000 in
theorem qkX {w0:World}{a b c d s:Value}{vs:List OpV}{t:TTask}{ss:List Value}{Ls:List (List Int)}(ht:RTask w0 a b c d vs t) (hl:RLs w0 s ss Ls) :
  Calls Tryz.prog 55 #[.agg #[a,b,c,d],s] w0 fun e w'=>e=.returned (errV (lErr t Ls))∧Sat w0 w' []:=by
 have ht':=ht
 obtain⟨ha,hb,hc,hd⟩:=ht
 have hla:=ha.big
 have hlr:=hl.rs
 have hln:=hl.len
 have hlb:=hlr.big
 have hw:=Sat.start w0
 refine qab (args:=[.agg #[a,b,c,d],s]) mixed Tryz.func55 rfl (by kernel_rfl) (Nat.le_of_ble_eq_true rfl) ?_
 repeat (first|refine qaa ?_|(refine qaf ?_;clear hw;intro p w hw))
 obtain⟨pt,hpt⟩:∃ pt,pt=p:=⟨p,rfl⟩
 subst hpt
 refine qad rfl (qa5 (ht'.at hw)) ?_
 rintro _ w' ⟨rfl,hk'⟩
 replace hw:=hw.call0 hk'
 clear hk'
 refine⟨_,rfl,?_⟩
 by_cases hk:checkT t=0
 ·rw [qat hk]
  repeat refine qaa ?_
  refine qaj [4,7,8,9,17,18,19,20,21,22,23,24,25,26,27,28,29,30,31,32,33,34,35,36,37,38,39,40,41,42,43,44,45,46,47,48,49,50,51,52] (G:=Nat) (fun k=>[(17,.int .i64 k)]) (fun k w=>k≤Ls.length∧(∀ i,i<k→PatOk t.vars (Ls.getD i []))∧Sat w0 w [Box pt 26 [a,b,c,d]]) (fun k=>Ls.length-k) 0 (fun _=>rfl) ⟨rfl,trivial⟩ ⟨Nat.zero_le _,fun i hi=>absurd hi (Nat.not_lt_zero _),hw⟩ ?_
  clear hw
  rintro σ m w ⟨hm,hall,hw⟩
  repeat refine qaa ?_
  refine go_if (fun h0 => ?_) (fun h0 => ?_)
  ·have hml:m<Ls.length:=by omega
   have hp:=hl.at_ m hml
   have hlp:=hp.big
   obtain⟨L,hL⟩:∃ L,L=Ls.getD m []:=⟨_,rfl⟩
   rw [←hL] at hp hlp
   repeat refine qaa ?_
   refine qaj [4,8,9,23,24,25,26,27,28,29,30,31,32,33,34,35,36,37,38,39,40,41,42,43,44,45,46,47,48,49,50,51] (G:=Nat) (fun k=>[(23,.int .i64 k)]) (fun k w=>k≤L.length∧(∀ i,i<k→(0≤L.getD i tInt.dflt∧L.getD i tInt.dflt<t.vars.length)∧(0<i→L.getD (i-1) tInt.dflt<L.getD i tInt.dflt))∧Sat w0 w [Box pt 26 [a,b,c,d]]) (fun k=>L.length-k) 0 (fun _=>rfl) ⟨rfl,trivial⟩ ⟨Nat.zero_le _,fun i hi=>absurd hi (Nat.not_lt_zero _),hw⟩ ?_
   clear hw
   rintro σ1 k w ⟨hk1,hpre,hw⟩
   repeat refine qaa ?_
   refine go_if (fun h1 => ?_) (fun h1 => ?_)
   ·have hkl:k<L.length:=by omega
    have e1:((k:Int)-1).toNat=k-1:=by omega
    repeat refine qaa ?_
    refine go_if (fun h2 => ?_) (fun h2 => ?_)
    ·repeat refine qaa ?_
     refine qae (v:=errV 2) rfl (by rw [qan (by decide)];rfl) ⟨?_,hw.tail⟩
     rw [lErr,if_neg (by simp [hk]),if_neg]
     intro hpa
     have hpk:=hpa m hml
     rw [←hL] at hpk
     have h3:=hpk k hkl
     rw [e1] at h2
     rcases h2 with (h2|h2)|⟨h2,h4⟩
     ·omega
     ·omega
     ·have:=h3.2 (by omega);omega
    ·rw [e1] at h2
     repeat refine qaa ?_
     refine⟨k+1,⟨rfl,trivial⟩,agr,⟨by omega,fun i hi => ?_,hw⟩,by omega⟩
     by_cases h:i=k
     ·subst h;exact⟨by omega,fun h0=>by omega⟩
     ·exact hpre i (by omega)
   ·repeat refine qaa ?_
    refine⟨m+1,⟨rfl,trivial⟩,agr,⟨by omega,fun i hi => ?_,hw⟩,by omega⟩
    by_cases h:i=m
    ·subst h;rw [←hL];intro j hj;exact hpre j (by omega)
    ·exact hall i (by omega)
  ·repeat refine qaa ?_
   refine qae (v:=errV 0) rfl (by rw [qat rfl];rfl) ⟨?_,hw.tail⟩
   rw [lErr,if_neg (by simp [hk]),if_pos]
   intro i hi
   exact hall i (by omega)
 ·rw [qan hk]
  repeat refine qaa ?_
  refine qae (v:=errV (checkT t)) rfl (by rw [qan hk];rfl) ⟨?_,hw.tail⟩
  rw [lErr,if_pos hk]
theorem orP {P Q:Prop} [Decidable Q] {b:Bool}(h:b=true↔P):(b || decide Q)=true↔P∨Q:=by rw [Bool.or_eq_true,h,decide_eq_true_eq]
theorem qcT {n:Nat}{p:Nat→Prop}:(∃ i,i<n+1∧p i)↔(∃ i,i<n∧p i)∨p n:=by
 constructor
 ·rintro⟨i,hi,h⟩
  by_cases e:i=n
  ·subst e;exact .inr h
  ·exact .inl ⟨i,by omega,h⟩
 ·rintro (⟨i,hi,h⟩|h)
  ·exact⟨i,by omega,h⟩
  ·exact⟨n,by omega,h⟩
theorem qoQ {t:TTask}{op:Nat}{p:List Int}:affT t op p↔∃ i,i<(t.ops.getD op dOp).effs.length∧((t.ops.getD op dOp).effs.getD i dEff).var∈p:=by
 constructor
 ·rintro⟨e,he,hv⟩
  obtain⟨i,hi,rfl⟩:=List.mem_iff_getElem.1 he
  exact⟨i,hi,by rw [qak hi];exact hv⟩
 ·rintro⟨i,hi,hv⟩
  exact⟨_,qah dEff hi,hv⟩
set_option maxRecDepth 8000 in
set_option maxHeartbeats 4000000 in
theorem qg3 {w0:World}{a b c d xa xb:Value}{vs:List OpV}{t:TTask}{A B:List Int}(ht:RTask w0 a b c d vs t) (hA:RS tInt w0 xa A) (hB:RS tInt w0 xb B) :
  Calls Tryz.prog 56 #[.agg #[a,b,c,d],xa,xb] w0 fun e w'=>(∃ r,e=.returned (.bool r)∧(r=true↔addT t A B))∧Sat w0 w' []:=by
 obtain⟨ha,hb,hc,hd⟩:=ht
 have hrs:=hd.rs
 have hdl:=hd.len
 have hdb:=hrs.big
 have hw:=Sat.start w0
 refine qab (args:=[.agg #[a,b,c,d],xa,xb]) mixed Tryz.func56 rfl (by kernel_rfl) (Nat.le_of_ble_eq_true rfl) ?_
 repeat (first|refine qaa ?_|(refine qaf ?_;clear hw;intro p w hw))
 obtain⟨pt,hpt⟩:∃ pt,pt=p:=⟨p,rfl⟩
 subst hpt
 refine qaj [6,8,9,10,12,16,17,18,19,20,21,22,23,24,25,26,27,28,29,30,31,32,33,34,35,36,37,38,39,40,41,42,43,44,45,46] (G:=Nat) (fun k=>[(16,.int .i64 k)]) (fun k w=>k≤t.ops.length∧(∀ op,op<k→¬(affT t op A∧affT t op B))∧Sat w0 w [Box pt 26 [a,b,c,d]]) (fun k=>t.ops.length-k) 0 (fun _=>rfl) ⟨rfl,trivial⟩ ⟨Nat.zero_le _,fun i hi=>absurd hi (Nat.not_lt_zero _),hw⟩ ?_
 clear hw
 rintro σ k w ⟨hk,hall,hw⟩
 repeat refine qaa ?_
 refine go_if (fun h1 => ?_) (fun h1 => ?_)
 ·have hkl:k<t.ops.length:=by omega
  have hop:=hd.at_ k hkl
  have hone:=hop.one
  obtain⟨es,hes⟩:=hop.effs
  have hesr:=hes.rs
  have hesl:=hes.len
  have hesb:=hesr.big
  repeat (first|refine qaa ?_|(refine qaf ?_;clear hw;intro p w hw)|(refine qag ?_;clear hw;intro w hw))
  obtain⟨pe,hpe⟩:∃ pe,pe=p:=⟨p,rfl⟩
  subst hpe
  refine qaJ [9,10,12,23,24,25,26,27,28,29,30,31,32,33,34,35,36,37,38,39,40,41] (G:=Nat) (H:=Bool) (I:=Bool) (fun j x y=>[(23,.int .i64 j),(9,.bool x),(10,.bool y)]) (fun j x y w=>j≤es.length∧(x=true↔∃ i,i<j∧((t.ops.getD k dOp).effs.getD i dEff).var∈A)∧(y=true↔∃ i,i<j∧((t.ops.getD k dOp).effs.getD i dEff).var∈B)∧Sat w0 w [Box pe 49 (tOp.enc (eget tOp vs k)),Box pt 26 [a,b,c,d]]) (fun j _ _=>es.length-j) 0 false false (fun _ _ _=>rfl) ⟨rfl,rfl,rfl,trivial⟩ ⟨Nat.zero_le _,iffF (fun⟨i,hi,_⟩=>by omega),iffF (fun⟨i,hi,_⟩=>by omega),hw⟩ ?_
  clear hw
  rintro σ1 j x y w ⟨hj,hx,hy,hw⟩
  repeat refine qaa ?_
  refine go_if (fun h2 => ?_) (fun h2 => ?_)
  ·have hjl:j<(t.ops.getD k dOp).effs.length:=by omega
   have hee:=hes.at_ j hjl
   have heo:=hee.one
   have hev:=hee.var
   have hE:∀ X:List Int,(∃ i,i<j+1∧((t.ops.getD k dOp).effs.getD i dEff).var∈X)↔(∃ i,i<j∧((t.ops.getD k dOp).effs.getD i dEff).var∈X)∨(eget tEff es j).var∈X:=fun X=>by rw [hev];exact qcT
   cases x <;> cases y
   ·repeat (first|refine qaa ?_|(refine qaf ?_;clear hw;intro p w hw)|(refine qag ?_;clear hw;intro w hw))
    refine qad rfl (qau (v:=(eget tEff es j).var) (hA.at hw)) ?_
    rintro _ w' ⟨rfl,hk'⟩
    replace hw:=hw.call0 hk'
    clear hk'
    refine⟨_,rfl,?_⟩
    repeat refine qaa ?_
    refine qad rfl (qau (v:=(eget tEff es j).var) (hB.at hw)) ?_
    rintro _ w' ⟨rfl,hk'⟩
    replace hw:=hw.call0 hk'
    clear hk'
    refine⟨_,rfl,?_⟩
    repeat refine qaa ?_
    exact⟨j+1,_,_,⟨rfl,rfl,rfl,trivial⟩,agr,⟨by omega,(orP hx).trans (hE A).symm,(orP hy).trans (hE B).symm,hw.sel⟩,by omega⟩
   ·repeat (first|refine qaa ?_|(refine qaf ?_;clear hw;intro p w hw)|(refine qag ?_;clear hw;intro w hw))
    refine qad rfl (qau (v:=(eget tEff es j).var) (hA.at hw)) ?_
    rintro _ w' ⟨rfl,hk'⟩
    replace hw:=hw.call0 hk'
    clear hk'
    refine⟨_,rfl,?_⟩
    repeat refine qaa ?_
    exact⟨j+1,_,true,⟨rfl,rfl,rfl,trivial⟩,agr,⟨by omega,(orP hx).trans (hE A).symm,iffT ((hE B).2 (.inl (hy.1 rfl))),hw.sel⟩,by omega⟩
   ·repeat (first|refine qaa ?_|(refine qaf ?_;clear hw;intro p w hw)|(refine qag ?_;clear hw;intro w hw))
    refine qad rfl (qau (v:=(eget tEff es j).var) (hB.at hw)) ?_
    rintro _ w' ⟨rfl,hk'⟩
    replace hw:=hw.call0 hk'
    clear hk'
    refine⟨_,rfl,?_⟩
    repeat refine qaa ?_
    exact⟨j+1,true,_,⟨rfl,rfl,rfl,trivial⟩,agr,⟨by omega,iffT ((hE A).2 (.inl (hx.1 rfl))),(orP hy).trans (hE B).symm,hw.sel⟩,by omega⟩
   ·repeat (first|refine qaa ?_|(refine qaf ?_;clear hw;intro p w hw)|(refine qag ?_;clear hw;intro w hw))
    exact⟨j+1,true,true,⟨rfl,rfl,rfl,trivial⟩,agr,⟨by omega,iffT ((hE A).2 (.inl (hx.1 rfl))),iffT ((hE B).2 (.inl (hy.1 rfl))),hw.sel⟩,by omega⟩
  ·have hjl:j=(t.ops.getD k dOp).effs.length:=by omega
   subst hjl
   have hxA:=hx.trans qoQ.symm
   have hyB:=hy.trans qoQ.symm
   have hstep:¬(affT t k A∧affT t k B)→∀ op,op<k+1→¬(affT t op A∧affT t op B):=fun h op ho=>by
    by_cases e:op=k
    ·subst e;exact h
    ·exact hall op (by omega)
   cases x <;> cases y
   ·repeat refine qaa ?_
    exact⟨k+1,⟨rfl,trivial⟩,agr,⟨by omega,hstep fun h=>(by have:=hxA.2 h.1;cases this),hw.sel⟩,by omega⟩
   ·repeat refine qaa ?_
    exact⟨k+1,⟨rfl,trivial⟩,agr,⟨by omega,hstep fun h=>(by have:=hxA.2 h.1;cases this),hw.sel⟩,by omega⟩
   ·repeat refine qaa ?_
    exact⟨k+1,⟨rfl,trivial⟩,agr,⟨by omega,hstep fun h=>(by have:=hyB.2 h.2;cases this),hw.sel⟩,by omega⟩
   ·repeat refine qaa ?_
    exact qae (v:=.bool false) rfl rfl ⟨⟨false,rfl,iffF fun h=>h k hkl ⟨hxA.1 rfl,hyB.1 rfl⟩⟩,hw.sel⟩
 ·repeat refine qaa ?_
  exact qae (v:=.bool true) rfl rfl ⟨⟨true,rfl,iffT fun op ho=>hall op (by omega)⟩,hw.sel⟩
end Go.Proofs.YtggdgcmjcahbbaaGreatDoor
/-
  The graph of additive patterns, in plain Lean.
-/
namespace Go.Proofs.YtggdgcmjcahbbaaGreatDoor
open Go.Sl Go
open Classical in
noncomputable def arcR (t:TTask) (Ls:List (List Int)) (i:Nat):Nat→List Arc
 | 0=>[]
 | k+1=>arcR t Ls i k++if addT t (Ls.getD i []) (Ls.getD k []) then [⟨(k:Int),(i:Int),1⟩] else []
noncomputable def arcP (t:TTask) (Ls:List (List Int)):Nat→List Arc
 | 0=>[]
 | i+1=>arcP t Ls i++arcR t Ls i i
theorem qk4 {t:TTask}{Ls:List (List Int)}{i:Nat}:arcP t Ls i++arcR t Ls i i=arcP t Ls (i+1):=rfl
theorem qib {t:TTask}{Ls:List (List Int)}{i k:Nat}(h:addT t (Ls.getD i []) (Ls.getD k [])):arcR t Ls i (k+1)=arcR t Ls i k++[⟨(k:Int),(i:Int),1⟩]:=by rw [arcR,if_pos h]
theorem qf6 {t:TTask}{Ls:List (List Int)}{i k:Nat}(h:¬addT t (Ls.getD i []) (Ls.getD k [])):arcR t Ls i (k+1)=arcR t Ls i k:=by rw [arcR,if_neg h,List.append_nil]
theorem qf7 {t:TTask}{Ls:List (List Int)}{i:Nat}{a:Arc}:∀ {k:Nat},a∈arcR t Ls i k↔∃ j,j<k∧addT t (Ls.getD i []) (Ls.getD j [])∧a=⟨(j:Int),(i:Int),1⟩
 | 0=>by simp [arcR]
 | k+1=>by
  by_cases h:addT t (Ls.getD i []) (Ls.getD k [])
  ·rw [qib h,List.mem_append,qf7,List.mem_singleton]
   constructor
   ·rintro (⟨j,hj,hh⟩|e)
    ·exact⟨j,by omega,hh⟩
    ·exact⟨k,by omega,h,e⟩
   ·rintro⟨j,hj,hh,e⟩
    by_cases hjk:j=k
    ·subst hjk;exact .inr e
    ·exact .inl ⟨j,by omega,hh,e⟩
  ·rw [qf6 h,qf7]
   constructor
   ·rintro⟨j,hj,hh⟩
    exact⟨j,by omega,hh⟩
   ·rintro⟨j,hj,hh,e⟩
    by_cases hjk:j=k
    ·subst hjk;exact absurd hh h
    ·exact⟨j,by omega,hh,e⟩
theorem qf8 {t:TTask}{Ls:List (List Int)}{i:Nat}:∀ k,(arcR t Ls i k).length≤k
 | 0=>by simp [arcR]
 | k+1=>by
  have:=qf8 (t:=t) (Ls:=Ls) (i:=i) k
  by_cases h:addT t (Ls.getD i []) (Ls.getD k [])
  ·rw [qib h,List.length_append,List.length_singleton];omega
  ·rw [qf6 h];omega
theorem qc2 {t:TTask}{Ls:List (List Int)}{a:Arc}:∀ {n:Nat},a∈arcP t Ls n↔∃ i j,i<n∧j<i∧addT t (Ls.getD i []) (Ls.getD j [])∧a=⟨(j:Int),(i:Int),1⟩
 | 0=>by simp [arcP]
 | n+1=>by
  rw [arcP,List.mem_append,qc2,qf7]
  constructor
  ·rintro (⟨i,j,hi,hh⟩|⟨j,hj,hh⟩)
   ·exact⟨i,j,by omega,hh⟩
   ·exact⟨n,j,by omega,hj,hh⟩
  ·rintro⟨i,j,hi,hj,hh⟩
   by_cases e:i=n
   ·subst e;exact .inr ⟨j,hj,hh⟩
   ·exact .inl ⟨i,j,by omega,hj,hh⟩
theorem qf9 {t:TTask}{Ls:List (List Int)}:∀ n,n≤32→(arcP t Ls n).length≤n*32
 | 0,_=>by simp [arcP]
 | n+1,hn=>by
  have h1:=qf9 (t:=t) (Ls:=Ls) n (by omega)
  have h2:=qf8 (t:=t) (Ls:=Ls) (i:=n) n
  rw [arcP,List.length_append];omega
theorem qic {t:TTask}{Ls:List (List Int)}{n:Nat}:∀ a∈arcP t Ls n,arcOk n a:=fun a ha=>by
 obtain⟨i,j,hi,hj,_,rfl⟩:=qc2.1 ha
 unfold arcOk
 simp only
 omega
theorem qj5 {t:TTask}{Ls:List (List Int)}{n:Nat}(hn:n≤32):checkCode n (arcP t Ls n)=0:=by
 have:=qf9 (t:=t) (Ls:=Ls) n hn
 exact qdX (by omega) (by omega) fun i hi=>qic _ (qah tArc.dflt hi)
theorem qm3 {t:TTask}{Ls:List (List Int)}{n u v:Nat}(hu:u<n) (hv:v<n):AdjA (arcP t Ls n) u v↔u≠v∧addT t (Ls.getD u []) (Ls.getD v []):=by
 constructor
 ·rintro⟨hne,a,ha,hh⟩
  obtain⟨i,j,hi,hj,hadd,rfl⟩:=qc2.1 ha
  refine⟨hne,?_⟩
  simp only at hh
  rcases hh with ⟨h1,h2⟩|⟨h1,h2⟩
  ·obtain rfl:j=u:=by omega
   obtain rfl:i=v:=by omega
   exact qhe hadd
  ·obtain rfl:j=v:=by omega
   obtain rfl:i=u:=by omega
   exact hadd
 ·rintro⟨hne,hadd⟩
  refine⟨hne,?_⟩
  rcases Nat.lt_or_gt_of_ne hne with h|h
  ·exact⟨⟨(u:Int),(v:Int),1⟩,qc2.2 ⟨v,u,hv,h,qhe hadd,rfl⟩,.inl ⟨rfl,rfl⟩⟩
  ·exact⟨⟨(v:Int),(u:Int),1⟩,qc2.2 ⟨u,v,hu,h,hadd,rfl⟩,.inr ⟨rfl,rfl⟩⟩
end Go.Proofs.YtggdgcmjcahbbaaGreatDoor
/-
  Contract of the check of a graph.
-/
namespace Go.Proofs.YtggdgcmjcahbbaaGreatDoor
open Go.Sl Go
attribute [local irreducible] vc opsW opsD opV opW PureV ReadV Thn Blk
set_option maxRecDepth 8000 in
theorem qiT {w0:World}{n:Int}{a:Value}{arcs:List Arc}(ha:RS tArc w0 a arcs) :
  Calls Tryz.prog 82 #[.int .i64 n,a] w0 fun e w'=>e=.returned (errV (checkCode n arcs))∧Sat w0 w' []:=by
 have hla:=ha.big
 have hw:=Sat.start w0
 refine qab (args:=[.int .i64 n,a]) mixed Tryz.func82 rfl (by kernel_rfl) (Nat.le_of_ble_eq_true rfl) ?_
 repeat refine qaa ?_
 refine go_if (fun h0 => ?_) (fun h0 => ?_)
 ·repeat refine qaa ?_
  refine qae (v:=.iface 74 (.int .i64 1)) rfl rfl ⟨?_,hw⟩
  rw [qgy h0];rfl
 ·repeat refine qaa ?_
  refine go_if (fun h1 => ?_) (fun h1 => ?_)
  ·repeat refine qaa ?_
   refine qae (v:=.iface 74 (.int .i64 5)) rfl rfl ⟨?_,hw⟩
   rw [qeP h0 (by omega)];rfl
  ·repeat refine qaa ?_
   refine qaj [4,6,22,23,24,25,26,27,28,29,30,31,32,33,34,35,36,37,38,39,40,41,42,43,44,45,46,47,48,49,50,51,52,53,54,55,56,57] (G:=Nat) (fun k=>[(22,.int .i64 k)]) (fun k w=>k≤arcs.length∧(∀ i,i<k→arcOk n (arcs.getD i tArc.dflt))∧Sat w0 w []) (fun k=>arcs.length-k) 0 (fun _=>rfl) ⟨rfl,trivial⟩ ⟨Nat.zero_le _,fun i hi=>absurd hi (Nat.not_lt_zero _),hw⟩ ?_
   clear hw
   rintro σ k w ⟨hk,hpre,hw⟩
   repeat refine qaa ?_
   refine go_if (fun h2 => ?_) (fun h2 => ?_)
   ·repeat (first|refine qaa ?_|(refine qaf ?_;clear hw;intro p w hw)|(refine qag ?_;clear hw;intro w hw))
    refine go_if (fun h3 => ?_) (fun h3 => ?_)
    ·repeat refine qaa ?_
     refine qae (v:=.iface 74 (.int .i64 1)) rfl rfl ⟨?_,hw.tail⟩
     rw [qgz h0 (by omega) (k:=k) (by omega) (by unfold arcOk;omega)];rfl
    ·repeat refine qaa ?_
     refine⟨k+1,⟨rfl,trivial⟩,agr,⟨by omega,fun i hi => ?_,hw.tail⟩,by omega⟩
     by_cases h:i=k
     ·subst h;unfold arcOk;omega
     ·exact hpre i (by omega)
   ·repeat refine qaa ?_
    refine qae (v:=.nilIface) rfl rfl ⟨?_,hw⟩
    rw [qdX h0 (by omega) (fun i hi=>hpre i (by omega))];rfl
end Go.Proofs.YtggdgcmjcahbbaaGreatDoor
/-
  Contract of the search for maximal cliques.
-/
namespace Go.Proofs.YtggdgcmjcahbbaaGreatDoor
open Go.Sl Go
attribute [local irreducible] vc opsW opsD opV opW PureV ReadV Thn Blk
theorem qnJ {R k:Nat}:decide (((R / 2 ^ k &&& 1:Nat):Int)=1)=R.testBit k:=by
 rw [Nat.testBit_eq_decide_div_mod_eq,Nat.and_one_is_mod]
 exact decide_eq_decide.2 (by omega)
theorem qbZ {n a:Nat}(hn:n≤32) (h:∀ v,ib a v→v<n):a<18446744073709551616:=by
 have h1:=qfR h
 have h2:2 ^ n≤2 ^ 32:=Nat.pow_le_pow_right (by decide) hn
 omega
set_option maxRecDepth 8000 in
set_option maxHeartbeats 8000000 in
theorem find_spec {w0:World}{pf:Addr}{nv:Value}{near:List Nat}(hn:near.length≤32) (hG:Gr near.length (fun u=>near.getD u tU64.dflt)) (hT:TabB w0):∀ (P R X:Nat) {w:World}{fv:Value}{fs:List Value}{Fs:List (List Int)},BI near.length (fun u=>near.getD u tU64.dflt) R P X→Fs.length≤4096→Sat w0 w [OS tVal 22 fv fs,RowsAt tInt 3 fs Fs,Box pf 155 [nv,fv],OS tU64 156 nv near] →
  Calls Tryz.prog 83 #[.pointer (some pf),u64 R,u64 P,u64 X] w fun e w'=>∃ r M fv' fs',e=.returned (.bool r)∧FindOk near.length (fun u=>near.getD u tU64.dflt) R P Fs.length r M∧Sat w0 w' [OS tVal 22 fv' fs',RowsAt tInt 3 fs' (Fs++M.map fun C=>bitsK C near.length),Box pf 155 [nv,fv'],OS tU64 156 nv near]:=by
 intro P
 induction P using Nat.strongRecOn with
 | _ P ih =>
 intro R X w fv fs Fs hB hl hw
 have hfl:=(hw.focus 1 rfl).rowsLen
 have hRl:=qbZ hn hB.rb
 have hPl:=qbZ hn hB.pb
 have hXl:=qbZ hn hB.xb
 have hPX:P ||| X<18446744073709551616:=by have:=Nat.or_lt_two_pow (n:=64) hPl hXl;omega
 have hNl:∀ u,near.getD u tU64.dflt<18446744073709551616:=fun u=>qbZ hn (hG.bd u)
 refine qab (args:=[.pointer (some pf),u64 R,u64 P,u64 X]) mixed Tryz.func83 rfl (by kernel_rfl) (Nat.le_of_ble_eq_true rfl) ?_
 repeat refine qaC ?_
 refine qai rfl (qdJ (a:=P) (b:=X) rfl rfl hPl hXl) ?_
 repeat refine qaC ?_
 by_cases h0:P ||| X=0
 ·have hd0:decide (((P ||| X:Nat):Int)=0)=true:=decide_eq_true (by omega)
  simp only [hd0]
  repeat refine qaa ?_
  have hw1:=hw.nil (T:=tInt) (e:=3)
  clear hw
  refine qao [9,10,27,28,29,30,31,32,33,34,35,36,37,38,39] (G:=Nat) (H:=Value) (fun k lv=>[(27,.int .i64 k),(9,lv)]) (fun k lv w=>k≤near.length∧Sat w0 w [OS tInt 3 lv (bitsK R k),OS tVal 22 fv fs,RowsAt tInt 3 fs Fs,Box pf 155 [nv,fv],OS tU64 156 nv near]) (fun k _=>near.length-k) 0 (.slice none 0 0) (fun _ _=>rfl) ⟨rfl,rfl,trivial⟩ ⟨Nat.zero_le _,hw1⟩ ?_
  clear hw1
  rintro σ k lv w ⟨hk,hw⟩
  repeat refine qaa ?_
  refine go_if (fun h1 => ?_) (fun h1 => ?_)
  ·have hkl:k<near.length:=by omega
   have hbl:=qhf R k
   repeat refine qaa ?_
   refine qai rfl (qgC (a:=R) (b:=k) (k:=.i64) rfl rfl (by omega)) ?_
   refine qai rfl (qbt (a:=R / 2 ^ k) (b:=1) rfl rfl (Nat.lt_of_le_of_lt (Nat.div_le_self _ _) hRl) (by decide)) ?_
   repeat refine qaC ?_
   simp only [qnJ]
   by_cases hb:ib R k
   ·simp only [show R.testBit k=true from hb]
    repeat (first|refine qaa ?_|(refine qap ?_;clear hw;intro s w hw))
    rw [←qja hb] at hw
    exact⟨k+1,s,⟨rfl,rfl,trivial⟩,agr,⟨by omega,hw.sel⟩,by omega⟩
   ·simp only [Bool.eq_false_iff.2 hb]
    repeat refine qaa ?_
    rw [←qg8 hb] at hw
    exact⟨k+1,_,⟨rfl,rfl,trivial⟩,agr,⟨by omega,hw⟩,by omega⟩
  have hke:k=near.length:=by omega
  subst hke
  have hP0:P=0:=qhb fun v hv=>qaF h0 v (qha.2 (.inl hv))
  have hX0:X=0:=qhb fun v hv=>qaF h0 v (qha.2 (.inr hv))
  repeat (first|refine qaa ?_|(refine qag ?_;clear hw;intro w hw)|(refine qap ?_;clear hw;intro s w hw))
  obtain⟨fv2,hfv⟩:∃ fv2,fv2=s:=⟨s,rfl⟩
  subst hfv
  have hw2:Sat w0 w [OS tInt 3 lv (bitsK R near.length),RowsAt tInt 3 fs Fs,OS tVal 22 fv2 (fs++[lv]),Box pf 155 [nv,fv2],OS tU64 156 nv near]:=by
   have hw1:Sat w0 w [OS tInt 3 lv (bitsK R near.length),OS tVal 22 fv2 (fs++[lv]),RowsAt tInt 3 fs Fs,Box pf 155 [nv,fv2],OS tU64 156 nv near]:=hw.tail
   exact hw1.sel
  have hw3:=hw2.rowPush
  have hw4:Sat w0 w [OS tVal 22 fv2 (fs++[lv]),RowsAt tInt 3 (fs++[lv]) (Fs++[bitsK R near.length]),Box pf 155 [nv,fv2],OS tU64 156 nv near]:=hw3.sel
  refine qae (v:=.bool (decide (((fs++[lv]).length:Int)≤4096))) rfl rfl ⟨_,[R],fv2,fs++[lv],?_,FindOk.base hB hP0 hX0 hl,hw4⟩
  congr 2
  exact decide_eq_decide.2 (by simp only [List.length_append,List.length_cons,List.length_nil];omega)
 have hd0:decide (((P ||| X:Nat):Int)=0)=false:=decide_eq_false (by omega)
 simp only [hd0]
 repeat refine qaa ?_
 refine qai rfl (qdJ (a:=P) (b:=X) rfl rfl hPl hXl) ?_
 repeat refine qaC ?_
 refine qaj [11,12,13,14,15,59,60,61,62,63,64,65,66,67,68,69,70,71,72,73,74,75,76,77,78,79,80,81] (G:=Nat × Nat × Int) (fun y=>[(13,u64 y.1),(11,.int .i64 (y.2.1:Int)),(12,.int .i64 y.2.2)]) (fun y w=>y.1<18446744073709551616∧(∀ v,ib y.1 v→ib P v∨ib X v)∧((y.2.2 = -1∧y.1=P ||| X)∨(0≤y.2.2∧y.2.2≤127∧(ib P y.2.1∨ib X y.2.1)))∧Sat w0 w [OS tVal 22 fv fs,RowsAt tInt 3 fs Fs,Box pf 155 [nv,fv],OS tU64 156 nv near]) (fun y=>y.1) (P ||| X,0,-1) (fun _=>rfl) ⟨rfl,rfl,rfl,trivial⟩ ⟨hPX,fun v hv=>qha.1 hv,.inl ⟨rfl,rfl⟩,hw⟩ ?_
 clear hw
 rintro σ ⟨x,piv,best⟩ w ⟨hx,hsub,hpb,hw⟩
 simp only at hx hsub hpb hw
 repeat refine qaC ?_
 by_cases hx0:x=0
 rotate_left
 ·have hd1:decide ((x:Int)=0)=false:=decide_eq_false (by omega)
  simp only [hd1,Bool.not_false]
  obtain⟨v,hv⟩:=qfC hx0
  have hvpx:=hsub v hv.1
  have hvn:v<near.length:=by
   rcases hvpx with h|h
   ·exact hB.pb v h
   ·exact hB.xb v h
  repeat refine qaa ?_
  refine qad rfl (tz_spec hw hT hx hv) ?_
  rintro _ w' ⟨rfl,rfl⟩
  refine⟨_,rfl,?_⟩
  repeat refine qaC ?_
  refine qai rfl (qbt (a:=P) (b:=near.getD v tU64.dflt) rfl rfl hPl (hNl v)) ?_
  refine qad rfl (qmU (Nat.lt_of_le_of_lt Nat.and_le_left hPl)) ?_
  rintro _ w' ⟨⟨kk,rfl,hk0,hk1⟩,rfl⟩
  refine⟨_,rfl,?_⟩
  repeat refine qaC ?_
  have hlt:=qjn hx0
  have hst:=fun u=>qhj hv u
  refine go_if (fun h2 => ?_) (fun h2 => ?_)
  ·repeat refine qaa ?_
   refine qai rfl (qee (a:=x) (b:=1) rfl rfl (by omega) hx) ?_
   refine qai rfl (qbt (a:=x) (b:=x-1) rfl rfl hx (by omega)) ?_
   repeat refine qaa ?_
   exact⟨(x &&& (x-1),v,kk),⟨rfl,rfl,rfl,trivial⟩,agr,⟨by simp only;omega,fun u hu=>hsub u ((hst u).1 hu).1,.inr ⟨hk0,hk1,hvpx⟩,hw⟩,hlt⟩
  ·repeat refine qaa ?_
   refine qai rfl (qee (a:=x) (b:=1) rfl rfl (by omega) hx) ?_
   refine qai rfl (qbt (a:=x) (b:=x-1) rfl rfl hx (by omega)) ?_
   repeat refine qaa ?_
   refine⟨(x &&& (x-1),piv,best),⟨rfl,rfl,rfl,trivial⟩,agr,⟨by simp only;omega,fun u hu=>hsub u ((hst u).1 hu).1,?_,hw⟩,hlt⟩
   rcases hpb with ⟨e1,_⟩|hpb
   ·exfalso;omega
   ·exact .inr hpb
 have hd1:decide ((x:Int)=0)=true:=decide_eq_true (by omega)
 have hpv:ib P piv∨ib X piv:=by
  rcases hpb with ⟨_,e2⟩|hpb
  ·exact absurd (e2.symm.trans hx0) h0
  ·exact hpb.2.2
 have hpn:piv<near.length:=by
  rcases hpv with h|h
  ·exact hB.pb _ h
  ·exact hB.xb _ h
 simp only [hd1,Bool.not_true]
 repeat refine qaa ?_
 refine qai rfl (qeR (a:=P) (b:=near.getD piv tU64.dflt) rfl rfl hPl (hNl piv)) ?_
 repeat refine qaa ?_
 have hF0:FI near.length (fun u=>near.getD u tU64.dflt) R P Fs.length (P &&& nb64 (near.getD piv tU64.dflt)) P X []:=FI.start hG hB hpv (fun v=>qos hPl (hNl piv)) hl
 have hw1:Sat w0 w [OS tVal 22 fv fs,RowsAt tInt 3 fs (Fs++([]:List Nat).map fun C=>bitsK C near.length),Box pf 155 [nv,fv],OS tU64 156 nv near]:=by
  rw [List.map_nil,List.append_nil];exact hw
 clear hw
 refine qaj [2,3,8,16,17,91,92,93,94,95,96,97,98,99,100,101,102,103,104,105,106,107,108,109,110,111,112,113,114,115,116,117,118,119,120,121,122,123,124,125,126,127,128,129,130,131] (G:=Nat × Nat × Nat × List Nat × Value × List Value) (fun y=>[(16,u64 y.1),(2,u64 y.2.1),(3,u64 y.2.2.1)]) (fun y w=>FI near.length (fun u=>near.getD u tU64.dflt) R P Fs.length y.1 y.2.1 y.2.2.1 y.2.2.2.1∧Sat w0 w [OS tVal 22 y.2.2.2.2.1 y.2.2.2.2.2,RowsAt tInt 3 y.2.2.2.2.2 (Fs++y.2.2.2.1.map fun C=>bitsK C near.length),Box pf 155 [nv,y.2.2.2.2.1],OS tU64 156 nv near]) (fun y=>y.1) (P &&& nb64 (near.getD piv tU64.dflt),P,X,[],fv,fs) (fun _=>rfl) ⟨rfl,rfl,rfl,trivial⟩ ⟨hF0,hw1⟩ ?_
 clear hw1 hx hsub hpb hx0 hd1
 rintro σ1 ⟨q,pp,xx,M,fv,fs⟩ w ⟨hF,hw⟩
 simp only at hF hw
 have hql:=qbZ hn fun v hv=>hF.bi.pb v (hF.qp v hv)
 have hpl:=qbZ hn hF.bi.pb
 have hxl:=qbZ hn hF.bi.xb
 repeat refine qaC ?_
 by_cases hq0:q=0
 ·have hd1:decide ((q:Int)=0)=true:=decide_eq_true (by omega)
  simp only [hd1,Bool.not_true]
  repeat refine qaa ?_
  exact qae (v:=.bool true) rfl rfl ⟨true,M,fv,fs,rfl,hF.done hq0,hw⟩
 have hd1:decide ((q:Int)=0)=false:=decide_eq_false (by omega)
 simp only [hd1,Bool.not_false]
 obtain⟨v,hv⟩:=qfC hq0
 have hvp:=hF.qp v hv.1
 have hvn:=hF.bi.pb v hvp
 repeat refine qaa ?_
 refine qad rfl (tz_spec hw hT hql hv) ?_
 rintro _ w' ⟨rfl,rfl⟩
 refine⟨_,rfl,?_⟩
 have h2v:2 ^ v<18446744073709551616:=qbZ hn fun u hu=>by rw [qjf.1 hu];exact hvn
 have h1v:1*2 ^ v % 18446744073709551616=2 ^ v:=by rw [Nat.one_mul,Nat.mod_eq_of_lt h2v]
 have hnv:¬ib (near.getD v tU64.dflt) v:=hG.irr v
 have hR1:∀ u,ib (R ||| 2 ^ v) u↔ib R u∨u=v:=fun u=>by rw [qha,qjf]
 have hP1:∀ u,ib (pp &&& near.getD v tU64.dflt) u↔ib pp u∧ib (near.getD v tU64.dflt) u:=fun u=>qje
 have hX1:∀ u,ib (xx &&& near.getD v tU64.dflt) u↔ib xx u∧ib (near.getD v tU64.dflt) u:=fun u=>qje
 have hml:(Fs++M.map fun C=>bitsK C near.length).length=Fs.length+M.length:=by simp
 repeat refine qaa ?_
 refine qaD [.op 0,.op 1,.op 2,.op 3,.op 4,.op 5,.op 6,.op 7,.op 8,.op 9,.op 10,.op 11,.op 12,.op 13,.op 14,.op 15,.op 16,.op 17,.op 18,.op 19,.op 20,.op 21,.op 22,.op 23,.op 24] hw (by kernel_rfl) ?_;clear hw;intro w hw
 repeat refine qaa ?_
 refine qai rfl (qcz (a:=1) (b:=v) (k:=.i64) rfl rfl (by omega)) ?_
 rw [h1v]
 repeat refine qaa ?_
 refine qai rfl (qdJ (a:=R) (b:=2 ^ v) rfl rfl hRl h2v) ?_
 repeat refine qaa ?_
 refine qai rfl (qbt (a:=pp) (b:=near.getD v tU64.dflt) rfl rfl hpl (hNl v)) ?_
 repeat refine qaa ?_
 refine qai rfl (qbt (a:=xx) (b:=near.getD v tU64.dflt) rfl rfl hxl (hNl v)) ?_
 repeat refine qaa ?_
 refine qad rfl (ih (pp &&& near.getD v tU64.dflt) (Nat.lt_of_lt_of_le (qpL hvp hnv) hF.ple) (R ||| 2 ^ v) (xx &&& near.getD v tU64.dflt) (hF.bi.child hG hvp hR1 hP1 hX1) (by rw [hml];exact hF.le) hw) ?_
 clear hw
 rintro _ w ⟨r,M1,fv2,fs2,rfl,hf,hw⟩
 rw [hml] at hf
 rw [List.append_assoc,←List.map_append] at hw
 refine⟨_,rfl,?_⟩
 cases r
 ·repeat refine qaa ?_
  exact qae (v:=.bool false) rfl rfl ⟨false,M++M1,fv2,fs2,rfl,hF.fail hG hv.1 hR1 hP1 hf,hw⟩
 repeat refine qaa ?_
 refine qai rfl (qcz (a:=1) (b:=v) (k:=.i64) rfl rfl (by omega)) ?_
 rw [h1v]
 refine qai rfl (qeR (a:=pp) (b:=2 ^ v) rfl rfl hpl h2v) ?_
 repeat refine qaa ?_
 refine qai rfl (qcz (a:=1) (b:=v) (k:=.i64) rfl rfl (by omega)) ?_
 rw [h1v]
 refine qai rfl (qdJ (a:=xx) (b:=2 ^ v) rfl rfl hxl h2v) ?_
 repeat refine qaa ?_
 refine qai rfl (qee (a:=q) (b:=1) rfl rfl (by omega) hql) ?_
 refine qai rfl (qbt (a:=q) (b:=q-1) rfl rfl hql (by omega)) ?_
 repeat refine qaa ?_
 exact⟨(q &&& (q-1),pp &&& nb64 (2 ^ v),xx ||| 2 ^ v,M++M1,fv2,fs2),⟨rfl,rfl,rfl,trivial⟩,agr,⟨hF.step hG hv.1 hR1 hP1 hf (fun u=>by rw [qos hpl h2v,qjf]) (fun u=>by rw [qha,qjf]) (fun u=>qhj hv u) Nat.and_le_left,hw⟩,qjn hq0⟩
end Go.Proofs.YtggdgcmjcahbbaaGreatDoor
