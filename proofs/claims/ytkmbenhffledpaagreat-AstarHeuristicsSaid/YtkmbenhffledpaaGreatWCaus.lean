/-
  Contracts of 'causal.depends' and 'causal.Arcs'.
-/
import Derived.Test.YtkmbenhffledpaaGreatWPat2
import Derived.Test.YtkmbenhffledpaaGreatTSyst
set_option linter.unusedSimpArgs false
set_option linter.unusedVariables false
namespace Go.Proofs.YtkmbenhffledpaaGreat
open Go.Sl Go
attribute [local irreducible] vc opsW opsD opV opW PureV ReadV Thn Blk
def depK (t:TTask) (k:Nat) (v u:Nat):Prop:=∃ op,op<k∧arcO (t.ops.getD op dOp) (u:Int) (v:Int)
def depE (o:TOp) (j:Nat) (v u:Nat):Prop:=∃ i,i<j∧(o.effs.getD i dEff).var=v∧(hasV o.pre u∨hasV (o.effs.getD i dEff).when u∨∃ d∈o.effs,d.var=u)
theorem qoc {t:TTask}{k v u:Nat}:depK t (k+1) v u↔depK t k v u∨arcO (t.ops.getD k dOp) (u:Int) (v:Int):=qeU
theorem qod {o:TOp}{j v u:Nat}:depE o (j+1) v u↔depE o j v u∨((o.effs.getD j dEff).var=v∧(hasV o.pre u∨hasV (o.effs.getD j dEff).when u∨∃ d∈o.effs,d.var=u)):=qeU
theorem qql {o:TOp}{v u:Nat}:depE o o.effs.length v u↔arcO o u v:=by
 constructor
 ·rintro⟨i,hi,h1,h2⟩
  exact⟨_,qak dEff hi,h1,h2⟩
 ·rintro⟨e,he,h1,h2⟩
  obtain⟨i,hi,rfl⟩:=List.getElem_of_mem he
  exact⟨i,hi,by rw [qaj hi];exact⟨h1,h2⟩⟩
theorem qoe {l:List Fact}{u:Int}:hasV l u↔∃ i,i<l.length∧(l.getD i tFact.dflt).var=u:=by
 constructor
 ·rintro⟨f,hf,e⟩
  obtain⟨i,hi,rfl⟩:=List.getElem_of_mem hf
  exact⟨i,hi,by rw [qaj hi];exact e⟩
 ·rintro⟨i,hi,e⟩
  exact⟨_,qak tFact.dflt hi,e⟩
theorem qst {l:List Eff}{u:Int}:(∃ d∈l,d.var=u)↔∃ i,i<l.length∧(l.getD i dEff).var=u:=by
 constructor
 ·rintro⟨f,hf,e⟩
  obtain⟨i,hi,rfl⟩:=List.getElem_of_mem hf
  exact⟨i,hi,by rw [qaj hi];exact e⟩
 ·rintro⟨i,hi,e⟩
  exact⟨_,qak dEff hi,e⟩
theorem qof {B E L F:Prop}:(B∨(E∧L))∨(E∧F)↔B∨(E∧(L∨F)) :=
 ⟨fun h=>h.elim (fun h=>h.elim .inl fun h=>.inr ⟨h.1,.inl h.2⟩) fun h=>.inr ⟨h.1,.inr h.2⟩,fun h=>h.elim (fun h=>.inl (.inl h)) fun⟨h1,h2⟩=>h2.elim (fun h=>.inl (.inr ⟨h1,h⟩)) fun h=>.inr ⟨h1,h⟩⟩
theorem qqm {K D E E' P W X:Prop}(e:E↔E'):((K∨D)∨(E∧(P∨W)))∨(E∧X)↔K∨D∨(E'∧(P∨W∨X)):=by
 rw [qof,or_assoc,←e,or_assoc]
set_option maxRecDepth 8000 in
set_option maxHeartbeats 4000000 in
theorem qj7 {w0:World}{a b c d:Value}{vs:List OpV}{t:TTask}(ht:RTask w0 a b c d vs t) (hg:GoodT t) :
  Calls Tryz.prog 147 #[.agg #[a,b,c,d]] w0 fun e w'=>∃ out ss M,e=.returned out∧MI M t.vars.length (fun v u=>arcT t (u:Int) (v:Int))∧Sat w0 w' [RowsAt tBool 4 ss M,OS tVal 150 out ss]:=by
 obtain⟨ha,hb,hc,hd⟩:=ht
 have hrs:=hd.rs
 have hdl:=hd.len
 have hdb:=hrs.big
 have hvb:=ha.big
 have hV:=hg.vars
 have hw:=Sat.start w0
 refine qab (args:=[.agg #[a,b,c,d]]) mixed Tryz.func147 rfl (by kernel_rfl) (Nat.le_of_ble_eq_true rfl) ?_
 repeat (first|refine qaa ?_|(refine qaf ?_;clear hw;intro p w hw)|(refine qaq ?_;clear hw;intro s w hw))
 obtain⟨pt,hpt⟩:∃ pt,pt=p:=⟨p,rfl⟩
 subst hpt
 obtain⟨out,hout⟩:∃ out,out=s:=⟨s,rfl⟩
 subst hout
 have hw:=hw.rowsNil (T:=tBool) (e:=4) t.vars.length
 rw [←qmr] at hw
 obtain⟨ss,hss⟩:∃ ss,ss=List.replicate t.vars.length (Value.slice none 0 0):=⟨_,rfl⟩
 have hsl:ss.length=t.vars.length:=by rw [hss];simp
 have hw1:Sat w0 w [RowsAt tBool 4 ss (mkR t.vars.length 0),OS tVal 150 out ss,Box pt 26 [a,b,c,d]]:=by rw [hss];exact hw
 clear hw hss
 have hl0:(List.replicate (↑t.vars.length:Int).toNat (Value.slice none 0 0)).length=t.vars.length:=by simp
 refine qao [4,22,23,24,25,26,27,28,29,30,31,32] (G:=Nat) (H:=List Value) (fun k _=>[(22,.int .i64 k)]) (fun k ss w=>k≤t.vars.length∧ss.length=t.vars.length∧Sat w0 w [RowsAt tBool 4 ss (mkR t.vars.length k),OS tVal 150 out ss,Box pt 26 [a,b,c,d]]) (fun k _=>t.vars.length-k) 0 ss (fun _ _=>rfl) ⟨rfl,trivial⟩ ⟨Nat.zero_le _,hsl,hw1⟩ ?_
 clear hw1 hsl ss
 rintro σ k ss w ⟨hk,hsl,hw⟩
 repeat refine qaa ?_
 refine go_if (fun h1 => ?_) (fun h1 => ?_)
 ·repeat (first|refine qaa ?_|(refine qag ?_;clear hw;intro w hw)|(refine qaq ?_;clear hw;intro s w hw))
  replace hw:=Sat.rowNew (i:=k) (by rw [qpJ];omega) hw
  rw [Int.toNat_natCast,qpL] at hw
  exact⟨k+1,_,⟨rfl,trivial⟩,agr,⟨by omega,by rw [List.length_set];exact hsl,hw⟩,by omega⟩
 have hke:k=t.vars.length:=by omega
 subst hke
 rw [qpK] at hw
 repeat refine qaa ?_
 clear hl0 h1
 refine qao [6,8,10,12,14,36,37,38,39,40,41,42,43,44,45,46,47,48,49,50,51,52,53,54,55,56,57,58,59,60,61,62,63,64,65,66,67,68,69,70,71,72,73,74,75,76,77,78,79,80,81,82,83,84,85,86,87,88,89,90] (G:=Nat) (H:=List (List Bool)) (fun k _=>[(36,.int .i64 k)]) (fun k M w=>k≤t.ops.length∧MI M t.vars.length (depK t k)∧Sat w0 w [RowsAt tBool 4 ss M,OS tVal 150 out ss,Box pt 26 [a,b,c,d]]) (fun k _=>t.ops.length-k) 0 _ (fun _ _=>rfl) ⟨rfl,trivial⟩ ⟨Nat.zero_le _,(MI.rep t.vars.length).congr fun v u _ _=>⟨False.elim,fun⟨op,h,_⟩=>absurd h (Nat.not_lt_zero _)⟩,hw⟩ ?_
 clear hw hk
 rintro σ k M w ⟨hk,hM,hw⟩
 repeat refine qaa ?_
 refine go_if (fun h1 => ?_) (fun h1 => ?_)
 ·have hkl:k<t.ops.length:=by omega
  have hop:=hd.at_ k hkl
  have hone:=hop.one
  have hopk:=hg.op k hkl
  have hpre:=hop.pre
  have hpreb:=hpre.big
  obtain⟨es,hes⟩:=hop.effs
  have hesr:=hes.rs
  have hesl:=hes.len
  have hesb:=hesr.big
  repeat (first|refine qaa ?_|(refine qaf ?_;clear hw;intro p w hw)|(refine qag ?_;clear hw;intro w hw))
  obtain⟨po,hpo⟩:∃ po,po=p:=⟨p,rfl⟩
  subst hpo
  have hw1:Sat w0 w [RowsAt tBool 4 ss M,OS tVal 150 out ss,Box po 56 (tOp.enc (eget tOp vs k)),Box pt 26 [a,b,c,d]]:=hw.sel
  clear hw
  refine qao [8,10,12,14,43,44,45,46,47,48,49,50,51,52,53,54,55,56,57,58,59,60,61,62,63,64,65,66,67,68,69,70,71,72,73,74,75,76,77,78,79,80,81,82,83,84,85,86,87,88,89] (G:=Nat) (H:=List (List Bool)) (fun j _=>[(43,.int .i64 j)]) (fun j M w=>j≤(t.ops.getD k dOp).effs.length∧MI M t.vars.length (fun v u=>depK t k v u∨depE (t.ops.getD k dOp) j v u)∧Sat w0 w [RowsAt tBool 4 ss M,OS tVal 150 out ss,Box po 56 (tOp.enc (eget tOp vs k)),Box pt 26 [a,b,c,d]]) (fun j _=>(t.ops.getD k dOp).effs.length-j) 0 M (fun _ _=>rfl) ⟨rfl,trivial⟩ ⟨Nat.zero_le _,hM.congr fun v u _ _=>⟨.inl,fun h=>h.elim id fun⟨i,h,_⟩=>absurd h (Nat.not_lt_zero _)⟩,hw1⟩ ?_
  clear hw1 hM M
  rintro σ1 j M w ⟨hj,hM,hw⟩
  repeat refine qaa ?_
  refine go_if (fun h2 => ?_) (fun h2 => ?_)
  ·have hjl:j<(t.ops.getD k dOp).effs.length:=by omega
   have hee:=hes.at_ j hjl
   have heo:=hee.one
   have hev:=hee.var
   have hwh:=hee.when
   have hwhb:=hwh.big
   have hwo:=hwh.one
   have hpo:=hpre.one
   have hEok:=hopk.eff j hjl
   have hEr:=qaD hEok
   repeat (first|refine qaa ?_|(refine qaf ?_;clear hw;intro p w hw)|(refine qag ?_;clear hw;intro w hw))
   obtain⟨pe,hpe⟩:∃ pe,pe=p:=⟨p,rfl⟩
   subst hpe
   repeat refine qaa ?_
   have c1:=hpre.cells1
   have c2:=hwh.cells1
   have z1:(eget tOp vs k).pre.cells.size=1:=by have:=congrArg List.length c1;simpa using this
   have z2:(eget tEff es j).when.cells.size=1:=by have:=congrArg List.length c2;simpa using this
   refine qa0 (T:=tVal) [(eget tOp vs k).pre,(eget tEff es j).when] [(eget tOp vs k).pre,(eget tEff es j).when] rfl (by simp [c1,c2,tVal]) (by simp [z1,z2]) rfl rfl (Nat.le_of_ble_eq_true rfl) (Nat.zero_lt_succ _) (Nat.le_of_ble_eq_true rfl) hw ?_
   clear hw
   intro ls w hw
   repeat refine qaa ?_
   have hw1:Sat w0 w [RowsAt tBool 4 ss M,OS tVal 150 out ss,OS tVal 23 ls [(eget tOp vs k).pre,(eget tEff es j).when],Box pe 80 (tEff.enc (eget tEff es j)),Box po 56 (tOp.enc (eget tOp vs k)),Box pt 26 [a,b,c,d]]:=hw.sel
   clear hw
   obtain⟨ev,hevn⟩:∃ ev:Nat,((t.ops.getD k dOp).effs.getD j dEff).var=(ev:Int):=⟨((t.ops.getD k dOp).effs.getD j dEff).var.toNat,by omega⟩
   have hevl:ev<t.vars.length:=by omega
   refine qao [10,12,53,54,55,56,57,58,59,60,61,62,63,64,65,66,67,68,69,70,71,72] (G:=Nat) (H:=List (List Bool)) (fun m _=>[(53,.int .i64 m)]) (fun m M w=>m≤2∧MI M t.vars.length (fun v u=>(depK t k v u∨depE (t.ops.getD k dOp) j v u)∨(v=ev∧((0<m∧hasV (t.ops.getD k dOp).pre (u:Int))∨(1<m∧hasV ((t.ops.getD k dOp).effs.getD j dEff).when (u:Int)))))∧Sat w0 w [RowsAt tBool 4 ss M,OS tVal 150 out ss,OS tVal 23 ls [(eget tOp vs k).pre,(eget tEff es j).when],Box pe 80 (tEff.enc (eget tEff es j)),Box po 56 (tOp.enc (eget tOp vs k)),Box pt 26 [a,b,c,d]]) (fun m _=>2-m) 0 M (fun _ _=>rfl) ⟨rfl,trivial⟩ ⟨Nat.zero_le _,hM.congr fun v u _ _=>⟨.inl,fun h=>h.elim id fun hh=>hh.2.elim (fun h=>absurd h.1 (Nat.not_lt_zero _)) fun h=>absurd h.1 (Nat.not_lt_zero _)⟩,hw1⟩ ?_
   clear hw1 hM M
   rintro σ2 m M w ⟨hm,hM,hw⟩
   repeat refine qaa ?_
   refine go_if (fun h3 => ?_) (fun h3 => ?_)
   ·have hm2:m<2:=by simp at h3;omega
    obtain⟨fl,fv,hfv,hfl,hin⟩:∃ fl fv,vget [(eget tOp vs k).pre,(eget tEff es j).when] m=fv∧RS tFact w0 fv fl∧(∀ x∈fl,FactOk t.vars x)∧∀ u:Nat,(((0<m+1∧hasV (t.ops.getD k dOp).pre (u:Int))∨(1<m+1∧hasV ((t.ops.getD k dOp).effs.getD j dEff).when (u:Int)))↔(((0<m∧hasV (t.ops.getD k dOp).pre (u:Int))∨(1<m∧hasV ((t.ops.getD k dOp).effs.getD j dEff).when (u:Int))))∨hasV fl u):=by
     have:m=0∨m=1:=by omega
     rcases this with rfl|rfl
     ·exact⟨(t.ops.getD k dOp).pre,_,by rw [qa7];rfl,hpre,qbx hopk.pre,fun u=>by simp⟩
     ·exact⟨((t.ops.getD k dOp).effs.getD j dEff).when,_,by rw [qa7];rfl,hwh,qbx hEok.1,fun u=>by simp⟩
    have hflb:=hfl.big
    repeat refine qaa ?_
    rw [hfv]
    obtain⟨hfm,hin⟩:=hin
    repeat refine qaa ?_
    refine qao [12,59,60,61,62,63,64,65,66,67,68,69,70,71] (G:=Nat) (H:=List (List Bool)) (fun i _=>[(59,.int .i64 i)]) (fun i M w=>i≤fl.length∧MI M t.vars.length (fun v u=>((depK t k v u∨depE (t.ops.getD k dOp) j v u)∨(v=ev∧((0<m∧hasV (t.ops.getD k dOp).pre (u:Int))∨(1<m∧hasV ((t.ops.getD k dOp).effs.getD j dEff).when (u:Int)))))∨(v=ev∧∃ i',i'<i∧(fl.getD i' tFact.dflt).var=(u:Int)))∧Sat w0 w [RowsAt tBool 4 ss M,OS tVal 150 out ss,OS tVal 23 ls [(eget tOp vs k).pre,(eget tEff es j).when],Box pe 80 (tEff.enc (eget tEff es j)),Box po 56 (tOp.enc (eget tOp vs k)),Box pt 26 [a,b,c,d]]) (fun i _=>fl.length-i) 0 M (fun _ _=>rfl) ⟨rfl,trivial⟩ ⟨Nat.zero_le _,hM.congr fun v u _ _=>⟨.inl,fun h=>h.elim id fun⟨_,i',h,_⟩=>absurd h (Nat.not_lt_zero _)⟩,hw⟩ ?_
    clear hw hM M
    rintro σ3 i M w ⟨hi,hM,hw⟩
    repeat refine qaa ?_
    refine go_if (fun h4 => ?_) (fun h4 => ?_)
    ·have hil:i<fl.length:=by omega
     have hfo:=hfm _ (qak tFact.dflt hil)
     unfold FactOk at hfo
     have hlen:=hM.len
     have hir:ev<M.length:=by omega
     have hrl:=hM.row ev hevl
     have hevt:(eget tEff es j).var.toNat=ev:=by omega
     repeat (first|refine qaa ?_|(refine qaf ?_;clear hw;intro p w hw)|(refine qai ?_;clear hw;intro w hw))
     have hw1:Sat w0 w [RowsAt tBool 4 ss M,OS tVal 150 out ss,Box p 77 (tFact.enc (fl.getD i tFact.dflt)),OS tVal 23 ls [(eget tOp vs k).pre,(eget tEff es j).when],Box pe 80 (tEff.enc (eget tEff es j)),Box po 56 (tOp.enc (eget tOp vs k)),Box pt 26 [a,b,c,d]]:=hw.sel
     clear hw
     have hssl:=hw1.rowsLen
     have hw:=hw1.rowOut (i:=(eget tEff es j).var.toNat) (by omega)
     clear hw1
     rw [←hevt] at hrl
     repeat (first|refine qaa ?_|(refine qag ?_;clear hw;intro w hw))
     replace hw:=Sat.rowBack (i:=(eget tEff es j).var.toNat) (by omega) (by omega) hw
     rw [hevt] at hw
     change Sat w0 w (RowsAt tBool 4 ss (setM M ev (fl.getD i tFact.dflt).var.toNat true)::_) at hw
     refine⟨i+1,setM M ev (fl.getD i tFact.dflt).var.toNat true,⟨rfl,trivial⟩,agr,⟨by omega,?_,hw.sel⟩,by omega⟩
     exact (hM.setT (v:=ev) (u:=(fl.getD i tFact.dflt).var.toNat) hevl (by omega)).congr fun v u _ _=>by
      rw [qeU]
      refine or_assoc.trans (or_congr Iff.rfl ?_)
      exact⟨fun h=>h.elim (fun h=>⟨h.1,.inl h.2⟩) fun h=>⟨h.1,.inr (by omega)⟩,fun⟨h1,h2⟩=>h2.elim (fun h=>.inl ⟨h1,h⟩) fun h=>.inr ⟨h1,by omega⟩⟩
    ·have hie:i=fl.length:=by omega
     subst hie
     repeat refine qaa ?_
     exact⟨m+1,M,⟨rfl,trivial⟩,agr,⟨by omega,hM.congr fun v u _ _=>by rw [hin u,qoe (l:=fl)];exact qof,hw⟩,by omega⟩
   ·have hm2:m=2:=by simp at h3;omega
    subst hm2
    have hM2:MI M t.vars.length (fun v u=>(depK t k v u∨depE (t.ops.getD k dOp) j v u)∨(v=ev∧(hasV (t.ops.getD k dOp).pre (u:Int)∨hasV ((t.ops.getD k dOp).effs.getD j dEff).when (u:Int)))):=hM.congr fun v u _ _=>by simp
    clear hM
    repeat refine qaa ?_
    refine qao [14,76,77,78,79,80,81,82,83,84,85,86,87,88] (G:=Nat) (H:=List (List Bool)) (fun i _=>[(76,.int .i64 i)]) (fun i M w=>i≤(t.ops.getD k dOp).effs.length∧MI M t.vars.length (fun v u=>((depK t k v u∨depE (t.ops.getD k dOp) j v u)∨(v=ev∧(hasV (t.ops.getD k dOp).pre (u:Int)∨hasV ((t.ops.getD k dOp).effs.getD j dEff).when (u:Int))))∨(v=ev∧∃ i',i'<i∧((t.ops.getD k dOp).effs.getD i' dEff).var=(u:Int)))∧Sat w0 w [RowsAt tBool 4 ss M,OS tVal 150 out ss,Box pe 80 (tEff.enc (eget tEff es j)),Box po 56 (tOp.enc (eget tOp vs k)),Box pt 26 [a,b,c,d]]) (fun i _=>(t.ops.getD k dOp).effs.length-i) 0 M (fun _ _=>rfl) ⟨rfl,trivial⟩ ⟨Nat.zero_le _,hM2.congr fun v u _ _=>⟨.inl,fun h=>h.elim id fun⟨_,i',h,_⟩=>absurd h (Nat.not_lt_zero _)⟩,hw.sel⟩ ?_
    clear hw hM2 M
    rintro σ3 i M w ⟨hi,hM,hw⟩
    repeat refine qaa ?_
    refine go_if (fun h4 => ?_) (fun h4 => ?_)
    ·have hil:i<(t.ops.getD k dOp).effs.length:=by omega
     have hee2:=hes.at_ i hil
     have heo2:=hee2.one
     have hev2:=hee2.var
     have hEr2:=qaD (hopk.eff i hil)
     have hlen:=hM.len
     have hir:ev<M.length:=by omega
     have hrl:=hM.row ev hevl
     have hevt:(eget tEff es j).var.toNat=ev:=by omega
     repeat (first|refine qaa ?_|(refine qaf ?_;clear hw;intro p w hw)|(refine qai ?_;clear hw;intro w hw))
     have hw1:Sat w0 w [RowsAt tBool 4 ss M,OS tVal 150 out ss,Box p 80 (tEff.enc (eget tEff es i)),Box pe 80 (tEff.enc (eget tEff es j)),Box po 56 (tOp.enc (eget tOp vs k)),Box pt 26 [a,b,c,d]]:=hw.sel
     clear hw
     have hssl:=hw1.rowsLen
     have hw:=hw1.rowOut (i:=(eget tEff es j).var.toNat) (by omega)
     clear hw1
     rw [←hevt] at hrl
     repeat (first|refine qaa ?_|(refine qag ?_;clear hw;intro w hw))
     replace hw:=Sat.rowBack (i:=(eget tEff es j).var.toNat) (by omega) (by omega) hw
     rw [hevt] at hw
     change Sat w0 w (RowsAt tBool 4 ss (setM M ev (eget tEff es i).var.toNat true)::_) at hw
     refine⟨i+1,setM M ev (eget tEff es i).var.toNat true,⟨rfl,trivial⟩,agr,⟨by omega,?_,hw.sel⟩,by omega⟩
     exact (hM.setT (v:=ev) (u:=(eget tEff es i).var.toNat) hevl (by omega)).congr fun v u _ _=>by
      rw [qeU]
      refine or_assoc.trans (or_congr Iff.rfl ?_)
      exact⟨fun h=>h.elim (fun h=>⟨h.1,.inl h.2⟩) fun h=>⟨h.1,.inr (by omega)⟩,fun⟨h1,h2⟩=>h2.elim (fun h=>.inl ⟨h1,h⟩) fun h=>.inr ⟨h1,by omega⟩⟩
    ·have hie:i=(t.ops.getD k dOp).effs.length:=by omega
     subst hie
     repeat refine qaa ?_
     exact⟨j+1,M,⟨rfl,trivial⟩,agr,⟨by omega,hM.congr fun v u _ _=>by rw [qod,hevn,qst];exact qqm (by omega),hw.sel⟩,by omega⟩
  ·have hje:j=(t.ops.getD k dOp).effs.length:=by omega
   subst hje
   repeat refine qaa ?_
   exact⟨k+1,M,⟨rfl,trivial⟩,agr,⟨by omega,hM.congr fun v u _ _=>by rw [qoc,qql],hw.sel⟩,by omega⟩
 have hke:k=t.ops.length:=by omega
 subst hke
 have hml:=hM.len
 have hsl2:=hw.rowsLen
 have hM2:MI M t.vars.length (fun v u=>depK t t.ops.length v u∧¬(v<0∧u=v)):=hM.congr fun v u _ _=>⟨fun h=>⟨h,fun h=>absurd h.1 (Nat.not_lt_zero _)⟩,fun h=>h.1⟩
 clear hM
 repeat refine qaa ?_
 refine qao [15,93,94,95,96,97,98,99,100,101,102] (G:=Nat) (H:=List (List Bool)) (fun i _=>[(93,.int .i64 i)]) (fun i M w=>i≤t.vars.length∧MI M t.vars.length (fun v u=>depK t t.ops.length v u∧¬(v<i∧u=v))∧Sat w0 w [RowsAt tBool 4 ss M,OS tVal 150 out ss,Box pt 26 [a,b,c,d]]) (fun i _=>t.vars.length-i) 0 M (fun _ _=>rfl) ⟨rfl,trivial⟩ ⟨Nat.zero_le _,hM2,hw⟩ ?_
 clear hw hM2 hml hsl2 M
 rintro σ1 i M w ⟨hi,hM,hw⟩
 have hml:=hM.len
 have hsl2:=hw.rowsLen
 repeat refine qaa ?_
 refine go_if (fun h5 => ?_) (fun h5 => ?_)
 ·have hil:i<t.vars.length:=by omega
  have hrl:=hM.row i hil
  replace hw:=hw.rowOut (i:=i) (by omega)
  repeat (first|refine qaa ?_|(refine qag ?_;clear hw;intro w hw))
  replace hw:=Sat.rowBack (i:=i) (by omega) (by omega) hw
  refine⟨i+1,_,⟨rfl,trivial⟩,agr,⟨by omega,?_,hw⟩,by omega⟩
  exact (hM.setF (v:=i) (u:=i) hil hil).congr fun v u _ _=>⟨fun h=>⟨h.1.1,fun hh=>by
   by_cases e:v=i
   ·exact h.2 ⟨e,by omega⟩
   ·exact h.1.2 ⟨by omega,hh.2⟩⟩,fun h=>⟨⟨h.1,fun hh=>h.2 ⟨by omega,hh.2⟩⟩,fun hh=>h.2 ⟨by omega,by omega⟩⟩⟩
 ·have hie:i=t.vars.length:=by omega
  subst hie
  repeat refine qaa ?_
  refine qae (v:=out) rfl rfl ⟨out,ss,M,rfl,hM.congr fun v u hv hu => ?_,hw.sel⟩
  constructor
  ·rintro⟨h1,h2⟩
   exact⟨fun e=>h2 ⟨hv,by omega⟩,h1⟩
  ·rintro⟨h1,h2⟩
   exact⟨h2,fun hh=>h1 (by omega)⟩
end Go.Proofs.YtkmbenhffledpaaGreat
