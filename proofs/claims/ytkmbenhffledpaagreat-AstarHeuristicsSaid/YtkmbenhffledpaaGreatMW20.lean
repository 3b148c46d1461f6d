/-
  Several texts as one: WLm3, WLm4, WLm5, WLm6.
-/
import Derived.Test.YtkmbenhffledpaaGreatMW19
import Derived.Test.YtkmbenhffledpaaGreatMW8
import Derived.Test.YtkmbenhffledpaaGreatMW3
import Derived.Test.YtkmbenhffledpaaGreatMW2
set_option linter.unusedSimpArgs false
set_option linter.unusedVariables false
/-
  Contract of LM-cut's 'arcs'.
-/
namespace Go.Proofs.YtkmbenhffledpaaGreat
open Go.Sl Go
attribute [local irreducible] vc opsW opsD opV opW PureV ReadV Thn Blk
set_option maxRecDepth 8000 in
set_option maxHeartbeats 8000000 in
theorem qnj {w0:World}{pr:Addr}{a fv gv cv0 lv vv:Value}{us:List CUV}{t:TTask}{V:List Int}(hr:LcR w0 pr t a fv gv cv0 lv us) (hg:GoodT t) (hv:RS tInt w0 vv V) (hVl:V.length=factN t) (hV:∀ g:Int,0≤g→g<factN t→0≤dg V g) :
  Calls Tryz.prog 202 #[.pointer (some pr),vv] w0 fun e w'=>∃ av,e=.returned av∧Sat w0 w' [OS tLArc 336 av (arcsT t V)]:=by
 obtain⟨hb,hvr,hfr,hgr,hcr,hlr,hll,hF⟩:=hr
 have hN:=qcm hg
 have hol:=hg.ops
 have hUl:(unT t).length≤64*t.ops.length:=qdS hg (k:=t.ops.length) (Nat.le_refl _)
 have hw:=Sat.start w0
 refine qab (args:=[.pointer (some pr),vv]) mixed Tryz.func202 rfl (by kernel_rfl) (Nat.le_of_ble_eq_true rfl) ?_
 replace hw:=hw.nil (T:=tLArc) (e:=336)
 rw [←qnW t V] at hw
 repeat refine qaa ?_
 refine qao [5,7,13,14,15,16,17,18,19,20,21,22,23,24,25,26,27,28,29,30,31,32,33,34] (G:=Nat) (H:=Value) (fun k av=>[(13,.int .i64 k),(5,av)]) (fun k av w=>k≤(unT t).length∧Sat w0 w [OS tLArc 336 av (arcK t V k)]) (fun k _=>(unT t).length-k) 0 (.slice none 0 0) (fun _ _=>rfl) ⟨rfl,rfl,trivial⟩ ⟨Nat.zero_le _,hw⟩ ?_
 clear hw
 rintro σ k av w ⟨hk,hw⟩
 have hal:=qh4 t V k
 repeat refine qaa ?_
 refine go_if (fun h1 => ?_) (fun h1 => ?_)
 ·have hkl:k<(unT t).length:=by omega
  obtain⟨c1,c2,L,c3,c4⟩:=hF k hkl
  obtain⟨op,hop,hopl⟩:=qsh hkl
  have hU:=qbR hg
  have hn:∀ f∈L,0≤f∧f<factN t:=fun f hf=>hU.needs k hkl f ((c4 f).1 hf)
  have hnd:∀ f∈L,0≤f∧0≤dg V f:=fun f hf=>⟨(hn f hf).1,hV f (hn f hf).1 (hn f hf).2⟩
  have hsame:=qlY c4 hnd
  have hgs:=qnX (V:=V) c4 fun f hf=>(hn f hf).1
  have hsucc:=qjh t V k
  obtain⟨mk,hmke⟩:∃ mk,mk=(un (unT t) k).makes:=⟨_,rfl⟩
  rw [←hmke] at c2
  have ouk:=c3.one
  have houk:(tCU.enc (eget tCU us k)).all Value.oneCell'=true:=by
   show ((Value.int .i64 (eget tCU us k).op).oneCell' && ((Value.int .i64 (eget tCU us k).makes).oneCell' && ((eget tCU us k).needs.oneCell' && true)))=true
   rw [ouk];rfl
  have hen:tCU.enc (eget tCU us k)=[.int .i64 (op:Int),.int .i64 mk,(eget tCU us k).needs]:=by
   show [Value.int .i64 (eget tCU us k).op,Value.int .i64 (eget tCU us k).makes,(eget tCU us k).needs]=_
   rw [c1,c2,hop]
  repeat (first|refine qaa ?_|(refine qaf ?_;clear hw;intro p w hw)|(refine qag ?_;clear hw;intro w hw))
  refine qac rfl (qcT (lv:=(eget tCU us k).needs) (c3.at hw) (hv.at hw) fun f hf=>⟨(hn f hf).1,by have:=(hn f hf).2;omega⟩) ?_
  rintro _ w' ⟨rfl,hk'⟩
  replace hw:=hw.call0 hk'
  clear hk'
  refine⟨_,rfl,?_⟩
  obtain⟨p7,hp7⟩:∃ p7,p7=p:=⟨p,rfl⟩
  subst hp7
  replace hw:Sat w0 w' [Box p7 135 [.int .i64 (op:Int),.int .i64 mk,(eget tCU us k).needs],OS tLArc 336 av (arcK t V k)]:=by rw [←hen];exact hw
  repeat refine qaa ?_
  refine go_if (fun h2 => ?_) (fun h2 => ?_)
  ·have hlt:hiV V (un (unT t) k).needs<inf:=by rw [←hsame];exact h2
   rw [arcU,if_pos hlt] at hsucc
   repeat refine qaa ?_
   refine qas [.op 0,.op 1,.op 2,.op 3,.op 5,.op 6,.op 7,.op 8,.op 4,.chk 6,.chk 8,.op 9,.op 10,.op 11,.op 12] hw (by kernel_rfl) ?_;clear hw;intro w hw
   repeat refine qaa ?_
   refine qac rfl (qcr (lv:=(eget tCU us k).needs) (c3.at hw) (hv.at hw) fun f hf=>⟨(hn f hf).1,by have:=(hn f hf).2;omega⟩) ?_
   rintro _ w' ⟨rfl,hk'⟩
   replace hw:=hw.call0 hk'
   clear hk'
   refine⟨_,rfl,?_⟩
   repeat refine qaa ?_
   refine qah tLArc (x1:=⟨grtI V L,mk,op⟩) rfl rfl rfl (Nat.le_of_ble_eq_true rfl) (Nat.zero_lt_succ _) hw ?_
   clear hw
   intro sl w hw
   repeat (first|refine qaa ?_|(refine qaq ?_;clear hw;intro s w hw))
   obtain⟨av2,hav2⟩:∃ av2,av2=s:=⟨s,rfl⟩
   subst hav2
   rw [hgs,hmke,←hop,←hsucc] at hw
   exact⟨k+1,av2,⟨rfl,rfl,trivial⟩,agr,⟨by omega,hw.tail.tail⟩,by omega⟩
  ·have hlt:¬hiV V (un (unT t) k).needs<inf:=by rw [←hsame];exact Int.not_lt.2 h2
   rw [arcU,if_neg hlt,List.append_nil] at hsucc
   repeat refine qaa ?_
   exact⟨k+1,av,⟨rfl,rfl,trivial⟩,agr,⟨by omega,by rw [hsucc];exact hw.tail⟩,by omega⟩
 have hke:k=(unT t).length:=by omega
 subst hke
 repeat refine qaa ?_
 exact qae (v:=av) rfl rfl ⟨av,rfl,hw⟩
end Go.Proofs.YtkmbenhffledpaaGreat
/-
  Contract of LM-cut's 'cut'.
-/
namespace Go.Proofs.YtkmbenhffledpaaGreat
open Go.Sl Go
attribute [local irreducible] vc opsW opsD opV opW PureV ReadV Thn Blk
structure TI (t:TTask) (cs V:List Int) (g0:Int) (B:List Bool):Prop where
 len:B.length=factN t
 ok:∀ f:Int,0≤f→f<factN t→bAt B f=true→ZT (withC t cs) V g0 f
 g:bAt B g0=true
def TCl (cs:List Int) (B:List Bool) (a:LArc):Prop:=0≤a.src→cs.getD a.op.toNat tInt.dflt=0→bAt B a.dst=true→bAt B a.src=true
structure SIn (t:TTask) (cs z V:List Int) (g0:Int) (S:List Bool):Prop where
 len:S.length=factN t
 ok:∀ f:Int,0≤f→f<factN t→bAt S f=true→ZS (withC t cs) z V g0 f
 st:∀ f,StF t.vars z f→bAt S f=true
def SCl (B S:List Bool) (a:LArc):Prop:=(a.src<0∨bAt S a.src=true)→bAt B a.dst=false→bAt S a.dst=true
set_option maxRecDepth 8000 in
set_option maxHeartbeats 16000000 in
theorem qp2 {w0:World}{pr:Addr}{a fv gv cv0 lv sv cv vv:Value}{us:List CUV}{t:TTask}{z cs V:List Int}{g0:Int}(hr:LcR w0 pr t a fv gv cv0 lv us) (hg:GoodT t) (hc:CostsOk t cs) (hs:RS tInt w0 sv z) (hok:StateOk t.vars z) (hcs:RS tInt w0 cv cs) (hv:RS tInt w0 vv V) (X:CutX (withC t cs) z V g0) :
  Calls Tryz.prog 200 #[.pointer (some pr),sv,cv,vv] w0 fun e w'=>∃ (kv:Value) (K:List Nat),e=.returned kv∧K.Pairwise (·<·)∧(∀ i:Nat,i∈K↔i<t.ops.length∧InCut (withC t cs) z V g0 i)∧Sat w0 w' [OS tInt 3 kv (K.map fun i:Nat=>(i:Int))]:=by
 have hr0:=hr
 obtain⟨hb,hvr,hfr,hgr,hcr,hlr,hll,hF⟩:=hr
 have hN:=qcm hg
 have hol:=hg.ops
 have hcl:=hc.1
 have hzl:=hok.1
 have hvl:=hg.vars
 have hfl:=qcq t.vars t.vars.length
 have hUl:(unT t).length≤64*t.ops.length:=qdS hg (k:=t.ops.length) (Nat.le_refl _)
 have hVl:V.length=factN t:=X.hm.len
 have hV:∀ g:Int,0≤g→g<factN t→0≤dg V g:=fun g h0 h1=>(X.hm.rng g h0 h1).1
 have hAl:(arcsT t V).length≤(unT t).length:=qh4 t V _
 have hgn:∀ f∈goalN t,0≤f∧f<V.length:=fun f hf=>by
  obtain⟨x,hx,rfl⟩:=List.mem_map.1 hf
  obtain⟨i,hi,e⟩:=List.getElem_of_mem hx
  have ho:=(hg.goal i hi).1
  rw [qaj hi,e] at ho
  have h1:=qbf hg.pos ho
  have h2:=qaX hg
  omega
 have hg0:grtI V (goalN t)=g0:=by
  rcases qcP (V:=V) (l:=goalN t) fun f hf=>(hgn f hf).1 with ⟨e,_⟩|⟨_,h⟩
  ·have:=X.g.1
   have e2:goalN (withC t cs)=goalN t:=rfl
   rw [e2,e] at this;exact absurd this List.not_mem_nil
  ·exact qdl h X.g
 have hgr0:=hgn g0 X.g.1
 have hArc:∀ a∈(arcsT t V),(0≤a.dst∧a.dst<factN t)∧a.src<factN t∧∃ op:Nat,a.op=(op:Int)∧op<t.ops.length:=fun a ha=>by
  obtain⟨_,_,_,_,_,_,_,h1,h2,h3⟩:=qlA (cs:=cs) hg hV ha
  exact⟨h1,h2,h3⟩
 have hw:=Sat.start w0
 refine qab (args:=[.pointer (some pr),sv,cv,vv]) mixed Tryz.func200 rfl (by kernel_rfl) (Nat.le_of_ble_eq_true rfl) ?_
 repeat refine qaa ?_
 refine qac rfl (qnj (⟨hb.at hw,hvr.at hw,hfr.at hw,hgr.at hw,hcr.at hw,hlr.at hw,hll,hF.at hw⟩) hg (hv.at hw) hVl hV) ?_
 rintro _ w' ⟨av,rfl,hk'⟩
 replace hw:Sat w0 w' [OS tLArc 336 av (arcsT t V)]:=hw.call1 hk'
 clear hk'
 refine⟨_,rfl,?_⟩
 repeat (first|refine qaa ?_|(refine qaq ?_;clear hw;intro s w hw))
 obtain⟨tv,htv⟩:∃ tv,tv=s:=⟨s,rfl⟩
 subst htv
 rw [Int.toNat_natCast] at hw
 have hrep:(List.replicate (factN t) false).length=factN t:=List.length_replicate
 repeat refine qaa ?_
 refine qac rfl (qcr (hgr.at hw) (hv.at hw) hgn) ?_
 rintro _ w' ⟨rfl,hk'⟩
 replace hw:=hw.call0 hk'
 clear hk'
 refine⟨_,rfl,?_⟩
 rw [hg0]
 have hT0:TI t cs V g0 ((List.replicate (factN t) false).set g0.toNat true):=by
  refine⟨by rw [List.length_set];exact hrep,fun f h0 h1 hb => ?_,by rw [qcJ hgr0.1 (by omega) hgr0.1,if_pos rfl]⟩
  rw [qcJ hgr0.1 (by omega) h0] at hb
  by_cases e:f=g0
  ·rw [e];exact .goal
  ·rw [if_neg e,qnY] at hb;cases hb
 repeat (first|refine qaa ?_|(refine qag ?_;clear hw;intro w hw))
 refine qao [11,13,39,40,41,42,43,44,45,46,47,48,49,50,51,52,53,54,55,56,57,58,59,60,61,62,63,64,65,66,67,68,69,70,71,72,73,74,75,76] (G:=Bool) (H:=List Bool) (fun ch _=>[(11,.bool ch)]) (fun ch B w=>TI t cs V g0 B∧(ch=false→∀ i:Nat,i<(arcsT t V).length→TCl cs B ((arcsT t V).getD i tLArc.dflt))∧Sat w0 w [OS tBool 4 tv B,OS tLArc 336 av (arcsT t V)]) (fun ch B=>2*cntF B+(bif ch then 1 else 0)) true _ (fun _ _=>rfl) ⟨rfl,trivial⟩ ⟨hT0,(fun h=>by cases h),hw⟩ ?_
 clear hw hT0 hrep
 rintro σ0 ch B w ⟨hT,hst,hw⟩
 cases ch
 rotate_left
 ·clear hst
  repeat refine qaa ?_
  refine qay [11,13,42,43,44,45,46,47,48,49,50,51,52,53,54,55,56,57,58,59,60,61,62,63,64,65,66,67,68,69,70,71,72,73,74,75,76] (G:=Nat) (H:=Bool) (I:=List Bool) (fun k ch _=>[(42,.int .i64 k),(11,.bool ch)]) (fun k ch B' w=>k≤(arcsT t V).length∧TI t cs V g0 B'∧cntF B'≤cntF B∧(ch=true→cntF B'<cntF B)∧(ch=false→∀ i:Nat,i<k→TCl cs B' ((arcsT t V).getD i tLArc.dflt))∧Sat w0 w [OS tBool 4 tv B',OS tLArc 336 av (arcsT t V)]) (fun k _ _=>(arcsT t V).length-k) 0 false B (fun _ _ _=>rfl) ⟨rfl,rfl,trivial⟩ ⟨Nat.zero_le _,hT,Nat.le_refl _,(fun h=>by cases h),fun _ i hi=>absurd hi (Nat.not_lt_zero _),hw⟩ ?_
  clear hw
  rintro σ1 k ch B' w ⟨hk,hT',hs1,hs2,hs3,hw⟩
  have hBl:=hT'.len
  repeat refine qaa ?_
  refine go_if (fun h3 => ?_) (fun h3 => ?_)
  ·have hkl:k<(arcsT t V).length:=by omega
   have hma:=qak tLArc.dflt hkl
   obtain⟨hdst,hsrc,op,hop,hopl⟩:=hArc _ hma
   by_cases p1:0≤((arcsT t V).getD k tLArc.dflt).src
   rotate_left
   ·have hneg:TCl cs B' ((arcsT t V).getD k tLArc.dflt):=fun h=>absurd h p1
    have hd1:decide (0≤((arcsT t V).getD k tLArc.dflt).src)=false:=decide_eq_false p1
    repeat (first|refine qaa ?_|(refine qaf ?_;clear hw;intro p w hw)|(refine qai ?_;clear hw;intro w hw))
    simp only [hd1,beq_self_eq_true,qal,qam,Bool.false_and,Bool.true_and,Bool.false_or,Bool.true_or,Bool.not_true,Bool.not_false,Bool.cond_true,Bool.cond_false,gv_fI,gv_tI]
    repeat refine qaa ?_
    refine⟨k+1,ch,B',⟨rfl,rfl,trivial⟩,agr,⟨by omega,hT',hs1,hs2,fun hch i hi => ?_,hw.tail⟩,by omega⟩
    by_cases e:i=k
    ·subst e;exact hneg
    ·exact hs3 hch i (by omega)
   have hd1:decide (0≤((arcsT t V).getD k tLArc.dflt).src)=true:=decide_eq_true p1
   by_cases p2:cs.getD ((arcsT t V).getD k tLArc.dflt).op.toNat tInt.dflt=0
   rotate_left
   ·have hneg:TCl cs B' ((arcsT t V).getD k tLArc.dflt):=fun _ h=>absurd h p2
    have hd2:decide (cs.getD ((arcsT t V).getD k tLArc.dflt).op.toNat tInt.dflt=0)=false:=decide_eq_false p2
    repeat (first|refine qaa ?_|(refine qaf ?_;clear hw;intro p w hw)|(refine qai ?_;clear hw;intro w hw))
    simp only [hd1,beq_self_eq_true,qal,qam,Bool.false_and,Bool.true_and,Bool.false_or,Bool.true_or,Bool.not_true,Bool.not_false,Bool.cond_true,Bool.cond_false,gv_fI,gv_tI]
    repeat refine qaa ?_
    simp only [hd2,beq_self_eq_true,qal,qam,Bool.false_and,Bool.true_and,Bool.false_or,Bool.true_or,Bool.not_true,Bool.not_false,Bool.cond_true,Bool.cond_false,gv_fI,gv_tI]
    repeat refine qaa ?_
    refine⟨k+1,ch,B',⟨rfl,rfl,trivial⟩,agr,⟨by omega,hT',hs1,hs2,fun hch i hi => ?_,hw.tail⟩,by omega⟩
    by_cases e:i=k
    ·subst e;exact hneg
    ·exact hs3 hch i (by omega)
   have hd2:decide (cs.getD ((arcsT t V).getD k tLArc.dflt).op.toNat tInt.dflt=0)=true:=decide_eq_true p2
   cases p3:B'.getD ((arcsT t V).getD k tLArc.dflt).dst.toNat tBool.dflt
   ·have hneg:TCl cs B' ((arcsT t V).getD k tLArc.dflt):=fun _ _ h=>by
     have h2:B'.getD ((arcsT t V).getD k tLArc.dflt).dst.toNat tBool.dflt=true:=h
     rw [p3] at h2;cases h2
    repeat (first|refine qaa ?_|(refine qaf ?_;clear hw;intro p w hw)|(refine qai ?_;clear hw;intro w hw))
    simp only [hd1,beq_self_eq_true,qal,qam,Bool.false_and,Bool.true_and,Bool.false_or,Bool.true_or,Bool.not_true,Bool.not_false,Bool.cond_true,Bool.cond_false,gv_fI,gv_tI]
    repeat refine qaa ?_
    simp only [hd2,beq_self_eq_true,qal,qam,Bool.false_and,Bool.true_and,Bool.false_or,Bool.true_or,Bool.not_true,Bool.not_false,Bool.cond_true,Bool.cond_false,gv_fI,gv_tI]
    repeat refine qaa ?_
    simp only [p3,beq_self_eq_true,qal,qam,Bool.false_and,Bool.true_and,Bool.false_or,Bool.true_or,Bool.not_true,Bool.not_false,Bool.cond_true,Bool.cond_false,gv_fI,gv_tI]
    repeat refine qaa ?_
    refine⟨k+1,ch,B',⟨rfl,rfl,trivial⟩,agr,⟨by omega,hT',hs1,hs2,fun hch i hi => ?_,hw.tail⟩,by omega⟩
    by_cases e:i=k
    ·subst e;exact hneg
    ·exact hs3 hch i (by omega)
   cases p4:B'.getD ((arcsT t V).getD k tLArc.dflt).src.toNat tBool.dflt
   rotate_left
   ·have hneg:TCl cs B' ((arcsT t V).getD k tLArc.dflt):=fun _ _ _=>p4
    repeat (first|refine qaa ?_|(refine qaf ?_;clear hw;intro p w hw)|(refine qai ?_;clear hw;intro w hw))
    simp only [hd1,beq_self_eq_true,qal,qam,Bool.false_and,Bool.true_and,Bool.false_or,Bool.true_or,Bool.not_true,Bool.not_false,Bool.cond_true,Bool.cond_false,gv_fI,gv_tI]
    repeat refine qaa ?_
    simp only [hd2,beq_self_eq_true,qal,qam,Bool.false_and,Bool.true_and,Bool.false_or,Bool.true_or,Bool.not_true,Bool.not_false,Bool.cond_true,Bool.cond_false,gv_fI,gv_tI]
    repeat refine qaa ?_
    simp only [p3,beq_self_eq_true,qal,qam,Bool.false_and,Bool.true_and,Bool.false_or,Bool.true_or,Bool.not_true,Bool.not_false,Bool.cond_true,Bool.cond_false,gv_fI,gv_tI]
    repeat refine qaa ?_
    simp only [p4,beq_self_eq_true,qal,qam,Bool.false_and,Bool.true_and,Bool.false_or,Bool.true_or,Bool.not_true,Bool.not_false,Bool.cond_true,Bool.cond_false,gv_fI,gv_tI]
    repeat refine qaa ?_
    refine⟨k+1,ch,B',⟨rfl,rfl,trivial⟩,agr,⟨by omega,hT',hs1,hs2,fun hch i hi => ?_,hw.tail⟩,by omega⟩
    by_cases e:i=k
    ·subst e;exact hneg
    ·exact hs3 hch i (by omega)
   have hzd:=hT'.ok _ hdst.1 hdst.2 p3
   have hzs:=qte hg hV hma p1 p2 hzd
   have hT2:TI t cs V g0 (B'.set ((arcsT t V).getD k tLArc.dflt).src.toNat true):=by
    refine⟨by rw [List.length_set];exact hBl,fun f h0 h1 hb => ?_,?_⟩
    ·rw [qcJ p1 (by omega) h0] at hb
     by_cases e:f=((arcsT t V).getD k tLArc.dflt).src
     ·rw [e];exact hzs
     ·rw [if_neg e] at hb;exact hT'.ok f h0 h1 hb
    ·rw [qcJ p1 (by omega) hgr0.1]
     split
     ·rfl
     ·exact hT'.g
   have hcn:=qfh (B:=B') (i:=((arcsT t V).getD k tLArc.dflt).src.toNat) (by omega) p4
   repeat (first|refine qaa ?_|(refine qaf ?_;clear hw;intro p w hw)|(refine qai ?_;clear hw;intro w hw))
   simp only [hd1,beq_self_eq_true,qal,qam,Bool.false_and,Bool.true_and,Bool.false_or,Bool.true_or,Bool.not_true,Bool.not_false,Bool.cond_true,Bool.cond_false,gv_fI,gv_tI]
   repeat refine qaa ?_
   simp only [hd2,beq_self_eq_true,qal,qam,Bool.false_and,Bool.true_and,Bool.false_or,Bool.true_or,Bool.not_true,Bool.not_false,Bool.cond_true,Bool.cond_false,gv_fI,gv_tI]
   repeat refine qaa ?_
   simp only [p3,beq_self_eq_true,qal,qam,Bool.false_and,Bool.true_and,Bool.false_or,Bool.true_or,Bool.not_true,Bool.not_false,Bool.cond_true,Bool.cond_false,gv_fI,gv_tI]
   repeat refine qaa ?_
   simp only [p4,beq_self_eq_true,qal,qam,Bool.false_and,Bool.true_and,Bool.false_or,Bool.true_or,Bool.not_true,Bool.not_false,Bool.cond_true,Bool.cond_false,gv_fI,gv_tI]
   repeat (first|refine qaa ?_|(refine qai ?_;clear hw;intro w hw))
   exact⟨k+1,true,_,⟨rfl,rfl,trivial⟩,agr,⟨by omega,hT2,by omega,fun _=>by omega,(fun h=>by cases h),hw.tail⟩,by omega⟩
  ·repeat refine qaa ?_
   refine⟨ch,B',⟨rfl,trivial⟩,agr,⟨hT',fun hch i hi=>hs3 hch i (by omega),hw⟩,?_⟩
   cases ch
   ·simp only [cond_true,cond_false];omega
   ·have:=hs2 rfl
    simp only [cond_true];omega
 have hcl0:=hst rfl
 clear hst
 have hTz:∀ f:Int,0≤f→f<factN t→(bAt B f=true↔ZT (withC t cs) V g0 f):=fun f h0 h1=>⟨hT.ok f h0 h1,fun h=>by
  refine zt_of (B:=fun f=>bAt B f=true) hg hV hT.g (fun a ha h2 h3 h4 => ?_) h
  obtain⟨i,hi,e⟩:=List.getElem_of_mem ha
  have h5:=hcl0 i hi
  rw [qaj hi,e] at h5
  exact h5 h2 h3 h4⟩
 repeat (first|refine qaa ?_|(refine qaq ?_;clear hw;intro s w hw))
 obtain⟨uv,huv⟩:∃ uv,uv=s:=⟨s,rfl⟩
 subst huv
 rw [Int.toNat_natCast] at hw
 have hBl:=hT.len
 refine qao [15,16,84,85,86,87,88,89,90,91,92,93,94,95,96,97,98,99,100] (G:=Nat) (H:=List Bool) (fun k _=>[(84,.int .i64 k)]) (fun k S w=>k≤t.vars.length∧S.length=factN t∧(∀ f:Int,0≤f→f<factN t→bAt S f=true→StF t.vars z f)∧(∀ v:Nat,v<k→bAt S (firstV t.vars v+z.getD v tInt.dflt)=true)∧Sat w0 w [OS tBool 4 uv S,OS tBool 4 tv B,OS tLArc 336 av (arcsT t V)]) (fun k _=>t.vars.length-k) 0 _ (fun _ _=>rfl) ⟨rfl,trivial⟩ ⟨Nat.zero_le _,List.length_replicate,(fun f _ _ h=>by rw [qnY] at h;cases h),fun v hv=>absurd hv (Nat.not_lt_zero _),hw⟩ ?_
 clear hw
 rintro σ2 k S w ⟨hk,hSl,hS1,hS2,hw⟩
 repeat refine qaa ?_
 refine go_if (fun h4 => ?_) (fun h4 => ?_)
 ·have hkl:k<t.vars.length:=by omega
  have hrg:=qcI hg hok (f:=firstV t.vars k+z.getD k tInt.dflt) ⟨k,hkl,rfl⟩
  obtain⟨q0,q1,q2⟩:=qhc hg.pos (fun i hi=>(hg.dom i hi).2) hvl hkl
  have hz:=hok.2 k (by omega)
  have hd:=hg.dom k hkl
  have hset:=fun f (h0:0≤f)=>qcJ (B:=S) (g:=f) hrg.1 (by omega) h0
  have n1:∀ f:Int,0≤f→f<factN t→bAt (S.set (firstV t.vars k+z.getD k tInt.dflt).toNat true) f=true→StF t.vars z f:=fun f h0 h1 hb=>by
   rw [hset f h0] at hb
   by_cases e:f=firstV t.vars k+z.getD k tInt.dflt
   ·exact⟨k,hkl,e⟩
   ·rw [if_neg e] at hb;exact hS1 f h0 h1 hb
  have n2:∀ v:Nat,v<k+1→bAt (S.set (firstV t.vars k+z.getD k tInt.dflt).toNat true) (firstV t.vars v+z.getD v tInt.dflt)=true:=fun v hv=>by
   have hv':v<t.vars.length:=by omega
   rw [hset _ (qcI hg hok (f:=firstV t.vars v+z.getD v tInt.dflt) ⟨v,hv',rfl⟩).1]
   split
   ·rfl
   ·rename_i e
    exact hS2 v (by
     have:v≠k:=fun e2=>e (by rw [e2])
     omega)
  rw [←q0] at n1 n2 hrg q1 q2
  repeat (first|refine qaa ?_|(refine qag ?_;clear hw;intro w hw))
  refine⟨k+1,_,⟨rfl,trivial⟩,agr,⟨by omega,by rw [List.length_set];exact hSl,n1,fun v hv => ?_,hw⟩,by omega⟩
  exact n2 v hv
 have hke:k=t.vars.length:=by omega
 subst hke
 have hS0:SIn t cs z V g0 S:=⟨hSl,fun f h0 h1 hb=>.st (hS1 f h0 h1 hb),fun f hf=>by
  obtain⟨v,hv,rfl⟩:=hf
  exact hS2 v hv⟩
 clear hS1 hS2 hSl
 repeat refine qaa ?_
 refine qao [17,19,101,102,103,104,105,106,107,108,109,110,111,112,113,114,115,116,117,118,119,120,121,122,123,124,125,126,127,128,129,130,131,132,133,134,135,136,137,138] (G:=Bool) (H:=List Bool) (fun ch _=>[(17,.bool ch)]) (fun ch S w=>SIn t cs z V g0 S∧(ch=false→∀ i:Nat,i<(arcsT t V).length→SCl B S ((arcsT t V).getD i tLArc.dflt))∧Sat w0 w [OS tBool 4 uv S,OS tBool 4 tv B,OS tLArc 336 av (arcsT t V)]) (fun ch S=>2*cntF S+(bif ch then 1 else 0)) true _ (fun _ _=>rfl) ⟨rfl,trivial⟩ ⟨hS0,(fun h=>by cases h),hw⟩ ?_
 clear hw hS0
 clear S
 rintro σ3 ch S w ⟨hS,hst,hw⟩
 cases ch
 rotate_left
 ·clear hst
  repeat refine qaa ?_
  refine qay [17,19,104,105,106,107,108,109,110,111,112,113,114,115,116,117,118,119,120,121,122,123,124,125,126,127,128,129,130,131,132,133,134,135,136,137,138] (G:=Nat) (H:=Bool) (I:=List Bool) (fun k ch _=>[(104,.int .i64 k),(17,.bool ch)]) (fun k ch S' w=>k≤(arcsT t V).length∧SIn t cs z V g0 S'∧cntF S'≤cntF S∧(ch=true→cntF S'<cntF S)∧(ch=false→∀ i:Nat,i<k→SCl B S' ((arcsT t V).getD i tLArc.dflt))∧Sat w0 w [OS tBool 4 uv S',OS tBool 4 tv B,OS tLArc 336 av (arcsT t V)]) (fun k _ _=>(arcsT t V).length-k) 0 false S (fun _ _ _=>rfl) ⟨rfl,rfl,trivial⟩ ⟨Nat.zero_le _,hS,Nat.le_refl _,(fun h=>by cases h),fun _ i hi=>absurd hi (Nat.not_lt_zero _),hw⟩ ?_
  clear hw
  rintro σ4 k ch S' w ⟨hk,hT',hs1,hs2,hs3,hw⟩
  have hSl:=hT'.len
  repeat refine qaa ?_
  refine go_if (fun h3 => ?_) (fun h3 => ?_)
  ·have hkl:k<(arcsT t V).length:=by omega
   have hma:=qak tLArc.dflt hkl
   obtain⟨hdst,hsrc,op,hop,hopl⟩:=hArc _ hma
   by_cases p1:((arcsT t V).getD k tLArc.dflt).src<0
   ·have hd1:decide (((arcsT t V).getD k tLArc.dflt).src<0)=true:=decide_eq_true p1
    cases p2:B.getD ((arcsT t V).getD k tLArc.dflt).dst.toNat tBool.dflt
    rotate_left
    ·have hneg:SCl B S' ((arcsT t V).getD k tLArc.dflt):=fun _ h=>by
      have h2:B.getD ((arcsT t V).getD k tLArc.dflt).dst.toNat tBool.dflt=false:=h
      rw [p2] at h2;cases h2
     repeat (first|refine qaa ?_|(refine qaf ?_;clear hw;intro p w hw)|(refine qai ?_;clear hw;intro w hw))
     simp only [hd1,beq_self_eq_true,qal,qam,Bool.false_and,Bool.true_and,Bool.false_or,Bool.true_or,Bool.not_true,Bool.not_false,Bool.cond_true,Bool.cond_false,gv_fI,gv_tI]
     repeat refine qaa ?_
     simp only [p2,beq_self_eq_true,qal,qam,Bool.false_and,Bool.true_and,Bool.false_or,Bool.true_or,Bool.not_true,Bool.not_false,Bool.cond_true,Bool.cond_false,gv_fI,gv_tI]
     repeat refine qaa ?_
     refine⟨k+1,ch,S',⟨rfl,rfl,trivial⟩,agr,⟨by omega,hT',hs1,hs2,fun hch i hi => ?_,hw.tail⟩,by omega⟩
     by_cases e:i=k
     ·subst e;exact hneg
     ·exact hs3 hch i (by omega)
    cases p3:S'.getD ((arcsT t V).getD k tLArc.dflt).dst.toNat tBool.dflt
    rotate_left
    ·have hneg:SCl B S' ((arcsT t V).getD k tLArc.dflt):=fun _ _=>p3
     repeat (first|refine qaa ?_|(refine qaf ?_;clear hw;intro p w hw)|(refine qai ?_;clear hw;intro w hw))
     simp only [hd1,beq_self_eq_true,qal,qam,Bool.false_and,Bool.true_and,Bool.false_or,Bool.true_or,Bool.not_true,Bool.not_false,Bool.cond_true,Bool.cond_false,gv_fI,gv_tI]
     repeat refine qaa ?_
     simp only [p2,beq_self_eq_true,qal,qam,Bool.false_and,Bool.true_and,Bool.false_or,Bool.true_or,Bool.not_true,Bool.not_false,Bool.cond_true,Bool.cond_false,gv_fI,gv_tI]
     repeat refine qaa ?_
     simp only [p3,beq_self_eq_true,qal,qam,Bool.false_and,Bool.true_and,Bool.false_or,Bool.true_or,Bool.not_true,Bool.not_false,Bool.cond_true,Bool.cond_false,gv_fI,gv_tI]
     repeat refine qaa ?_
     refine⟨k+1,ch,S',⟨rfl,rfl,trivial⟩,agr,⟨by omega,hT',hs1,hs2,fun hch i hi => ?_,hw.tail⟩,by omega⟩
     by_cases e:i=k
     ·subst e;exact hneg
     ·exact hs3 hch i (by omega)
    have hnz:¬ZT (withC t cs) V g0 ((arcsT t V).getD k tLArc.dflt).dst:=fun h=>by
     have h2:B.getD ((arcsT t V).getD k tLArc.dflt).dst.toNat tBool.dflt=true:=(hTz _ hdst.1 hdst.2).2 h
     rw [p2] at h2;cases h2
    have hzs:ZS (withC t cs) z V g0 ((arcsT t V).getD k tLArc.dflt).dst:=qrM hg hV hma (.inl p1) hnz
    have hT2:SIn t cs z V g0 (S'.set ((arcsT t V).getD k tLArc.dflt).dst.toNat true):=by
     refine⟨by rw [List.length_set];exact hSl,fun f h0 h1 hb => ?_,fun f hf => ?_⟩
     ·rw [qcJ hdst.1 (by omega) h0] at hb
      by_cases e:f=((arcsT t V).getD k tLArc.dflt).dst
      ·rw [e];exact hzs
      ·rw [if_neg e] at hb;exact hT'.ok f h0 h1 hb
     ·rw [qcJ hdst.1 (by omega) (qcI hg hok hf).1]
      split
      ·rfl
      ·exact hT'.st f hf
    have hcn:=qfh (B:=S') (i:=((arcsT t V).getD k tLArc.dflt).dst.toNat) (by omega) p3
    repeat (first|refine qaa ?_|(refine qaf ?_;clear hw;intro p w hw)|(refine qai ?_;clear hw;intro w hw))
    simp only [hd1,beq_self_eq_true,qal,qam,Bool.false_and,Bool.true_and,Bool.false_or,Bool.true_or,Bool.not_true,Bool.not_false,Bool.cond_true,Bool.cond_false,gv_fI,gv_tI]
    repeat refine qaa ?_
    simp only [p2,beq_self_eq_true,qal,qam,Bool.false_and,Bool.true_and,Bool.false_or,Bool.true_or,Bool.not_true,Bool.not_false,Bool.cond_true,Bool.cond_false,gv_fI,gv_tI]
    repeat refine qaa ?_
    simp only [p3,beq_self_eq_true,qal,qam,Bool.false_and,Bool.true_and,Bool.false_or,Bool.true_or,Bool.not_true,Bool.not_false,Bool.cond_true,Bool.cond_false,gv_fI,gv_tI]
    repeat (first|refine qaa ?_|(refine qai ?_;clear hw;intro w hw))
    exact⟨k+1,true,_,⟨rfl,rfl,trivial⟩,agr,⟨by omega,hT2,by omega,fun _=>by omega,(fun h=>by cases h),hw.tail⟩,by omega⟩
   have hd1:decide (((arcsT t V).getD k tLArc.dflt).src<0)=false:=decide_eq_false p1
   cases p1b:S'.getD ((arcsT t V).getD k tLArc.dflt).src.toNat tBool.dflt
   ·have hneg:SCl B S' ((arcsT t V).getD k tLArc.dflt):=fun h=>by
     rcases h with h|h
     ·exact absurd h p1
     ·have h2:S'.getD ((arcsT t V).getD k tLArc.dflt).src.toNat tBool.dflt=true:=h
      rw [p1b] at h2;cases h2
    repeat (first|refine qaa ?_|(refine qaf ?_;clear hw;intro p w hw)|(refine qai ?_;clear hw;intro w hw))
    simp only [hd1,beq_self_eq_true,qal,qam,Bool.false_and,Bool.true_and,Bool.false_or,Bool.true_or,Bool.not_true,Bool.not_false,Bool.cond_true,Bool.cond_false,gv_fI,gv_tI]
    repeat refine qaa ?_
    simp only [p1b,beq_self_eq_true,qal,qam,Bool.false_and,Bool.true_and,Bool.false_or,Bool.true_or,Bool.not_true,Bool.not_false,Bool.cond_true,Bool.cond_false,gv_fI,gv_tI]
    repeat refine qaa ?_
    refine⟨k+1,ch,S',⟨rfl,rfl,trivial⟩,agr,⟨by omega,hT',hs1,hs2,fun hch i hi => ?_,hw.tail⟩,by omega⟩
    by_cases e:i=k
    ·subst e;exact hneg
    ·exact hs3 hch i (by omega)
   cases p2:B.getD ((arcsT t V).getD k tLArc.dflt).dst.toNat tBool.dflt
   rotate_left
   ·have hneg:SCl B S' ((arcsT t V).getD k tLArc.dflt):=fun _ h=>by
     have h2:B.getD ((arcsT t V).getD k tLArc.dflt).dst.toNat tBool.dflt=false:=h
     rw [p2] at h2;cases h2
    repeat (first|refine qaa ?_|(refine qaf ?_;clear hw;intro p w hw)|(refine qai ?_;clear hw;intro w hw))
    simp only [hd1,beq_self_eq_true,qal,qam,Bool.false_and,Bool.true_and,Bool.false_or,Bool.true_or,Bool.not_true,Bool.not_false,Bool.cond_true,Bool.cond_false,gv_fI,gv_tI]
    repeat refine qaa ?_
    simp only [p1b,beq_self_eq_true,qal,qam,Bool.false_and,Bool.true_and,Bool.false_or,Bool.true_or,Bool.not_true,Bool.not_false,Bool.cond_true,Bool.cond_false,gv_fI,gv_tI]
    repeat refine qaa ?_
    simp only [p2,beq_self_eq_true,qal,qam,Bool.false_and,Bool.true_and,Bool.false_or,Bool.true_or,Bool.not_true,Bool.not_false,Bool.cond_true,Bool.cond_false,gv_fI,gv_tI]
    repeat refine qaa ?_
    refine⟨k+1,ch,S',⟨rfl,rfl,trivial⟩,agr,⟨by omega,hT',hs1,hs2,fun hch i hi => ?_,hw.tail⟩,by omega⟩
    by_cases e:i=k
    ·subst e;exact hneg
    ·exact hs3 hch i (by omega)
   cases p3:S'.getD ((arcsT t V).getD k tLArc.dflt).dst.toNat tBool.dflt
   rotate_left
   ·have hneg:SCl B S' ((arcsT t V).getD k tLArc.dflt):=fun _ _=>p3
    repeat (first|refine qaa ?_|(refine qaf ?_;clear hw;intro p w hw)|(refine qai ?_;clear hw;intro w hw))
    simp only [hd1,beq_self_eq_true,qal,qam,Bool.false_and,Bool.true_and,Bool.false_or,Bool.true_or,Bool.not_true,Bool.not_false,Bool.cond_true,Bool.cond_false,gv_fI,gv_tI]
    repeat refine qaa ?_
    simp only [p1b,beq_self_eq_true,qal,qam,Bool.false_and,Bool.true_and,Bool.false_or,Bool.true_or,Bool.not_true,Bool.not_false,Bool.cond_true,Bool.cond_false,gv_fI,gv_tI]
    repeat refine qaa ?_
    simp only [p2,beq_self_eq_true,qal,qam,Bool.false_and,Bool.true_and,Bool.false_or,Bool.true_or,Bool.not_true,Bool.not_false,Bool.cond_true,Bool.cond_false,gv_fI,gv_tI]
    repeat refine qaa ?_
    simp only [p3,beq_self_eq_true,qal,qam,Bool.false_and,Bool.true_and,Bool.false_or,Bool.true_or,Bool.not_true,Bool.not_false,Bool.cond_true,Bool.cond_false,gv_fI,gv_tI]
    repeat refine qaa ?_
    refine⟨k+1,ch,S',⟨rfl,rfl,trivial⟩,agr,⟨by omega,hT',hs1,hs2,fun hch i hi => ?_,hw.tail⟩,by omega⟩
    by_cases e:i=k
    ·subst e;exact hneg
    ·exact hs3 hch i (by omega)
   have hnz:¬ZT (withC t cs) V g0 ((arcsT t V).getD k tLArc.dflt).dst:=fun h=>by
    have h2:B.getD ((arcsT t V).getD k tLArc.dflt).dst.toNat tBool.dflt=true:=(hTz _ hdst.1 hdst.2).2 h
    rw [p2] at h2;cases h2
   have hzs:ZS (withC t cs) z V g0 ((arcsT t V).getD k tLArc.dflt).dst:=qrM hg hV hma (.inr (hT'.ok _ (by omega) hsrc p1b)) hnz
   have hT2:SIn t cs z V g0 (S'.set ((arcsT t V).getD k tLArc.dflt).dst.toNat true):=by
    refine⟨by rw [List.length_set];exact hSl,fun f h0 h1 hb => ?_,fun f hf => ?_⟩
    ·rw [qcJ hdst.1 (by omega) h0] at hb
     by_cases e:f=((arcsT t V).getD k tLArc.dflt).dst
     ·rw [e];exact hzs
     ·rw [if_neg e] at hb;exact hT'.ok f h0 h1 hb
    ·rw [qcJ hdst.1 (by omega) (qcI hg hok hf).1]
     split
     ·rfl
     ·exact hT'.st f hf
   have hcn:=qfh (B:=S') (i:=((arcsT t V).getD k tLArc.dflt).dst.toNat) (by omega) p3
   repeat (first|refine qaa ?_|(refine qaf ?_;clear hw;intro p w hw)|(refine qai ?_;clear hw;intro w hw))
   simp only [hd1,beq_self_eq_true,qal,qam,Bool.false_and,Bool.true_and,Bool.false_or,Bool.true_or,Bool.not_true,Bool.not_false,Bool.cond_true,Bool.cond_false,gv_fI,gv_tI]
   repeat refine qaa ?_
   simp only [p1b,beq_self_eq_true,qal,qam,Bool.false_and,Bool.true_and,Bool.false_or,Bool.true_or,Bool.not_true,Bool.not_false,Bool.cond_true,Bool.cond_false,gv_fI,gv_tI]
   repeat refine qaa ?_
   simp only [p2,beq_self_eq_true,qal,qam,Bool.false_and,Bool.true_and,Bool.false_or,Bool.true_or,Bool.not_true,Bool.not_false,Bool.cond_true,Bool.cond_false,gv_fI,gv_tI]
   repeat refine qaa ?_
   simp only [p3,beq_self_eq_true,qal,qam,Bool.false_and,Bool.true_and,Bool.false_or,Bool.true_or,Bool.not_true,Bool.not_false,Bool.cond_true,Bool.cond_false,gv_fI,gv_tI]
   repeat (first|refine qaa ?_|(refine qai ?_;clear hw;intro w hw))
   exact⟨k+1,true,_,⟨rfl,rfl,trivial⟩,agr,⟨by omega,hT2,by omega,fun _=>by omega,(fun h=>by cases h),hw.tail⟩,by omega⟩
  ·repeat refine qaa ?_
   refine⟨ch,S',⟨rfl,trivial⟩,agr,⟨hT',fun hch i hi=>hs3 hch i (by omega),hw⟩,?_⟩
   cases ch
   ·simp only [cond_true,cond_false];omega
   ·have:=hs2 rfl
    simp only [cond_true];omega
 have hcl1:=hst rfl
 clear hst
 have hSz:∀ f:Int,0≤f→f<factN t→(bAt S f=true↔ZS (withC t cs) z V g0 f):=fun f h0 h1=>⟨hS.ok f h0 h1,fun h=>by
  refine zs_of (S:=fun f=>bAt S f=true) hg hV hS.st (fun a ha h2 h3 => ?_) h
  obtain⟨i,hi,e⟩:=List.getElem_of_mem ha
  have h5:=hcl1 i hi
  rw [qaj hi,e] at h5
  refine h5 h2 ?_
  cases h6:bAt B a.dst
  ·rfl
  ·exact absurd ((hTz _ (hArc a ha).1.1 (hArc a ha).1.2).1 h6) h3⟩
 have hSl:=hS.len
 replace hw:=hw.nil (T:=tInt) (e:=3)
 repeat refine qaa ?_
 refine qay [20,22,141,142,143,144,145,146,147,148,149,150,151,152,153,154,155,156,157,158,159,160,161,162,163,164,165,166,167] (G:=Nat) (H:=Value) (I:=List Int) (fun k ov _=>[(141,.int .i64 k),(20,ov)]) (fun k ov xs w=>k≤(arcsT t V).length∧xs.length≤k∧(∀ x:Int,x∈xs↔∃ i:Nat,i<k∧((arcsT t V).getD i tLArc.dflt).op=x∧(((arcsT t V).getD i tLArc.dflt).src<0∨bAt S ((arcsT t V).getD i tLArc.dflt).src=true)∧bAt B ((arcsT t V).getD i tLArc.dflt).dst=true)∧Sat w0 w [OS tInt 3 ov xs,OS tBool 4 uv S,OS tBool 4 tv B,OS tLArc 336 av (arcsT t V)]) (fun k _ _=>(arcsT t V).length-k) 0 (.slice none 0 0) [] (fun _ _ _=>rfl) ⟨rfl,rfl,trivial⟩ ⟨Nat.zero_le _,Nat.le_refl _,(fun x=>⟨fun h=>absurd h List.not_mem_nil,fun⟨i,hi,_⟩=>absurd hi (Nat.not_lt_zero _)⟩),hw⟩ ?_
 clear hw
 rintro σ5 k ov xs w ⟨hk,hxl,hmem,hw⟩
 repeat refine qaa ?_
 refine go_if (fun h3 => ?_) (fun h3 => ?_)
 ·have hkl:k<(arcsT t V).length:=by omega
  have hma:=qak tLArc.dflt hkl
  obtain⟨hdst,hsrc,op,hop,hopl⟩:=hArc _ hma
  have hnot:¬((((arcsT t V).getD k tLArc.dflt).src<0∨bAt S ((arcsT t V).getD k tLArc.dflt).src=true)∧bAt B ((arcsT t V).getD k tLArc.dflt).dst=true)→∀ x:Int,x∈xs↔∃ i:Nat,i<k+1∧((arcsT t V).getD i tLArc.dflt).op=x∧(((arcsT t V).getD i tLArc.dflt).src<0∨bAt S ((arcsT t V).getD i tLArc.dflt).src=true)∧bAt B ((arcsT t V).getD i tLArc.dflt).dst=true:=fun hn x=>by
   rw [hmem x]
   constructor
   ·rintro⟨i,h1,h2⟩;exact⟨i,by omega,h2⟩
   ·rintro⟨i,h1,h2⟩
    by_cases e:i=k
    ·subst e;exact absurd h2.2 hn
    ·exact⟨i,by omega,h2⟩
  have hyes:((((arcsT t V).getD k tLArc.dflt).src<0∨bAt S ((arcsT t V).getD k tLArc.dflt).src=true)∧bAt B ((arcsT t V).getD k tLArc.dflt).dst=true)→∀ x:Int,x∈xs++[((arcsT t V).getD k tLArc.dflt).op]↔∃ i:Nat,i<k+1∧((arcsT t V).getD i tLArc.dflt).op=x∧(((arcsT t V).getD i tLArc.dflt).src<0∨bAt S ((arcsT t V).getD i tLArc.dflt).src=true)∧bAt B ((arcsT t V).getD i tLArc.dflt).dst=true:=fun hn x=>by
   rw [List.mem_append,hmem x,List.mem_singleton]
   constructor
   ·rintro (⟨i,h1,h2⟩|h)
    ·exact⟨i,by omega,h2⟩
    ·exact⟨k,by omega,h.symm,hn⟩
   ·rintro⟨i,h1,h2⟩
    by_cases e:i=k
    ·subst e;exact .inr h2.1.symm
    ·exact .inl ⟨i,by omega,h2⟩
  by_cases p1:((arcsT t V).getD k tLArc.dflt).src<0
  ·have hd1:decide (((arcsT t V).getD k tLArc.dflt).src<0)=true:=decide_eq_true p1
   cases p2:B.getD ((arcsT t V).getD k tLArc.dflt).dst.toNat tBool.dflt
   ·have hn:=hnot fun h=>by
     have h2:B.getD ((arcsT t V).getD k tLArc.dflt).dst.toNat tBool.dflt=true:=h.2
     rw [p2] at h2;cases h2
    repeat (first|refine qaa ?_|(refine qaf ?_;clear hw;intro p w hw)|(refine qai ?_;clear hw;intro w hw))
    simp only [hd1,beq_self_eq_true,qal,qam,Bool.false_and,Bool.true_and,Bool.false_or,Bool.true_or,Bool.not_true,Bool.not_false,Bool.cond_true,Bool.cond_false,gv_fI,gv_tI]
    repeat refine qaa ?_
    simp only [p2,beq_self_eq_true,qal,qam,Bool.false_and,Bool.true_and,Bool.false_or,Bool.true_or,Bool.not_true,Bool.not_false,Bool.cond_true,Bool.cond_false,gv_fI,gv_tI]
    repeat refine qaa ?_
    exact⟨k+1,ov,xs,⟨rfl,rfl,trivial⟩,agr,⟨by omega,by omega,hn,hw.tail⟩,by omega⟩
   ·have hn:=hyes ⟨.inl p1,p2⟩
    repeat (first|refine qaa ?_|(refine qaf ?_;clear hw;intro p w hw)|(refine qai ?_;clear hw;intro w hw))
    simp only [hd1,beq_self_eq_true,qal,qam,Bool.false_and,Bool.true_and,Bool.false_or,Bool.true_or,Bool.not_true,Bool.not_false,Bool.cond_true,Bool.cond_false,gv_fI,gv_tI]
    repeat refine qaa ?_
    simp only [p2,beq_self_eq_true,qal,qam,Bool.false_and,Bool.true_and,Bool.false_or,Bool.true_or,Bool.not_true,Bool.not_false,Bool.cond_true,Bool.cond_false,gv_fI,gv_tI]
    repeat (first|refine qaa ?_|(refine qaq ?_;clear hw;intro s w hw))
    obtain⟨ov2,hov2⟩:∃ ov2,ov2=s:=⟨s,rfl⟩
    subst hov2
    exact⟨k+1,ov2,_,⟨rfl,rfl,trivial⟩,agr,⟨by omega,by rw [List.length_append,List.length_singleton];omega,hn,hw.tail.tail⟩,by omega⟩
  have hd1:decide (((arcsT t V).getD k tLArc.dflt).src<0)=false:=decide_eq_false p1
  cases p1b:S.getD ((arcsT t V).getD k tLArc.dflt).src.toNat tBool.dflt
  ·have hn:=hnot fun h=>by
    rcases h.1 with h|h
    ·exact p1 h
    ·have h2:S.getD ((arcsT t V).getD k tLArc.dflt).src.toNat tBool.dflt=true:=h
     rw [p1b] at h2;cases h2
   repeat (first|refine qaa ?_|(refine qaf ?_;clear hw;intro p w hw)|(refine qai ?_;clear hw;intro w hw))
   simp only [hd1,beq_self_eq_true,qal,qam,Bool.false_and,Bool.true_and,Bool.false_or,Bool.true_or,Bool.not_true,Bool.not_false,Bool.cond_true,Bool.cond_false,gv_fI,gv_tI]
   repeat refine qaa ?_
   simp only [p1b,beq_self_eq_true,qal,qam,Bool.false_and,Bool.true_and,Bool.false_or,Bool.true_or,Bool.not_true,Bool.not_false,Bool.cond_true,Bool.cond_false,gv_fI,gv_tI]
   repeat refine qaa ?_
   exact⟨k+1,ov,xs,⟨rfl,rfl,trivial⟩,agr,⟨by omega,by omega,hn,hw.tail⟩,by omega⟩
  cases p2:B.getD ((arcsT t V).getD k tLArc.dflt).dst.toNat tBool.dflt
  ·have hn:=hnot fun h=>by
    have h2:B.getD ((arcsT t V).getD k tLArc.dflt).dst.toNat tBool.dflt=true:=h.2
    rw [p2] at h2;cases h2
   repeat (first|refine qaa ?_|(refine qaf ?_;clear hw;intro p w hw)|(refine qai ?_;clear hw;intro w hw))
   simp only [hd1,beq_self_eq_true,qal,qam,Bool.false_and,Bool.true_and,Bool.false_or,Bool.true_or,Bool.not_true,Bool.not_false,Bool.cond_true,Bool.cond_false,gv_fI,gv_tI]
   repeat refine qaa ?_
   simp only [p1b,beq_self_eq_true,qal,qam,Bool.false_and,Bool.true_and,Bool.false_or,Bool.true_or,Bool.not_true,Bool.not_false,Bool.cond_true,Bool.cond_false,gv_fI,gv_tI]
   repeat refine qaa ?_
   simp only [p2,beq_self_eq_true,qal,qam,Bool.false_and,Bool.true_and,Bool.false_or,Bool.true_or,Bool.not_true,Bool.not_false,Bool.cond_true,Bool.cond_false,gv_fI,gv_tI]
   repeat refine qaa ?_
   exact⟨k+1,ov,xs,⟨rfl,rfl,trivial⟩,agr,⟨by omega,by omega,hn,hw.tail⟩,by omega⟩
  ·have hn:=hyes ⟨.inr p1b,p2⟩
   repeat (first|refine qaa ?_|(refine qaf ?_;clear hw;intro p w hw)|(refine qai ?_;clear hw;intro w hw))
   simp only [hd1,beq_self_eq_true,qal,qam,Bool.false_and,Bool.true_and,Bool.false_or,Bool.true_or,Bool.not_true,Bool.not_false,Bool.cond_true,Bool.cond_false,gv_fI,gv_tI]
   repeat refine qaa ?_
   simp only [p1b,beq_self_eq_true,qal,qam,Bool.false_and,Bool.true_and,Bool.false_or,Bool.true_or,Bool.not_true,Bool.not_false,Bool.cond_true,Bool.cond_false,gv_fI,gv_tI]
   repeat refine qaa ?_
   simp only [p2,beq_self_eq_true,qal,qam,Bool.false_and,Bool.true_and,Bool.false_or,Bool.true_or,Bool.not_true,Bool.not_false,Bool.cond_true,Bool.cond_false,gv_fI,gv_tI]
   repeat (first|refine qaa ?_|(refine qaq ?_;clear hw;intro s w hw))
   obtain⟨ov2,hov2⟩:∃ ov2,ov2=s:=⟨s,rfl⟩
   subst hov2
   exact⟨k+1,ov2,_,⟨rfl,rfl,trivial⟩,agr,⟨by omega,by rw [List.length_append,List.length_singleton];omega,hn,hw.tail.tail⟩,by omega⟩
 have hke:k=(arcsT t V).length:=by omega
 subst hke
 repeat refine qaa ?_
 refine qac rfl (qdj (s:=ov) hw (by omega)) ?_
 clear hw
 rintro _ w ⟨rfl,hw⟩
 refine⟨_,rfl,?_⟩
 repeat refine qaa ?_
 refine qac rfl (qdk (s:=ov) hw (by rw [qdd];omega)) ?_
 clear hw
 rintro _ w ⟨kv,rfl,hw⟩
 refine⟨_,rfl,?_⟩
 have hin:∀ x:Int,x∈compL (sortL xs)↔∃ i:Nat,x=(i:Int)∧i<t.ops.length∧InCut (withC t cs) z V g0 i:=fun x=>by
  rw [qfY,qew,hmem x]
  constructor
  ·rintro⟨j,h1,h2,h3,h4⟩
   have hma:=qak tLArc.dflt h1
   obtain⟨hdst,hsrc,op,hop,hopl⟩:=hArc _ hma
   refine⟨op,by rw [←h2,hop],hopl,(qji hg hV).2 ⟨_,hma,hop,?_,(hTz _ hdst.1 hdst.2).1 h4⟩⟩
   by_cases h0:((arcsT t V).getD j tLArc.dflt).src<0
   ·exact .inl h0
   ·rcases h3 with h|h
    ·exact .inl h
    ·exact .inr ((hSz _ (by omega) hsrc).1 h)
  ·rintro⟨i,rfl,hil,hcut⟩
   obtain⟨a,ha,ho,hs',hz⟩:=(qji hg hV).1 hcut
   obtain⟨hdst,hsrc,_⟩:=hArc a ha
   obtain⟨j,hj,e⟩:=List.getElem_of_mem ha
   refine⟨j,hj,?_⟩
   rw [qaj hj,e]
   refine⟨ho,?_,(hTz _ hdst.1 hdst.2).2 hz⟩
   by_cases h0:a.src<0
   ·exact .inl h0
   ·rcases hs' with h|h
    ·exact .inl h
    ·exact .inr ((hSz _ (by omega) hsrc).2 h)
 have hnn:∀ x∈compL (sortL xs),((x.toNat:Nat):Int)=x:=fun x hx=>by
  obtain⟨i,e,_⟩:=(hin x).1 hx
  rw [e];rfl
 have hmap:((compL (sortL xs)).map Int.toNat).map (fun i:Nat=>(i:Int))=compL (sortL xs):=by
  rw [List.map_map]
  conv=>rhs;rw [←List.map_id (compL (sortL xs))]
  exact List.map_congr_left fun x hx=>hnn x hx
 have hasc:=qjv (qfw xs)
 repeat refine qaa ?_
 refine qae (v:=kv) rfl rfl ⟨kv,(compL (sortL xs)).map Int.toNat,rfl,?_,fun i => ?_,?_⟩
 ·refine List.pairwise_map.2 (List.Pairwise.imp_of_mem (fun {x y} hx hy hlt => ?_) hasc)
  have h1:=hnn x hx
  have h2:=hnn y hy
  omega
 ·rw [List.mem_map]
  constructor
  ·rintro⟨x,hx,rfl⟩
   obtain⟨i,e,h1,h2⟩:=(hin x).1 hx
   rw [e,Int.toNat_natCast];exact⟨h1,h2⟩
  ·rintro⟨h1,h2⟩
   exact⟨(i:Int),(hin _).2 ⟨i,rfl,h1,h2⟩,rfl⟩
 ·rw [hmap];exact hw.only
end Go.Proofs.YtkmbenhffledpaaGreat
/-
  Contract of LM-cut's 'Cuts'.
-/
namespace Go.Proofs.YtkmbenhffledpaaGreat
open Go.Sl Go
attribute [local irreducible] vc opsW opsD opV opW PureV ReadV Thn Blk
structure CutV where
 ops:Value
 cost:Int
def tCut:Ty CutV:=⟨2,fun x=>[x.ops,.int .i64 x.cost],fun _=>rfl,⟨.slice none 0 0,0⟩⟩
instance inWLm51:ShutT tCut:=⟨trivial⟩
def Pre (t:TTask) (z cs:List Int) (L:List (List Nat × Int)):Prop:=∀ r,LMC t z cs r→LMC t z (costsT t) (r.map (L++·))
theorem Pre.zero {t:TTask}{z:List Int}:Pre t z (costsT t) []:=fun r h=>by
 have e:r.map (([]:List (List Nat × Int))++·)=r:=by cases r <;> rfl
 rw [e];exact h
theorem Pre.step {t:TTask}{z cs V:List Int}{L:List (List Nat × Int)}{g0:Int}{K:List Nat}{c:Int}(h:Pre t z cs L) (h1:IsHM (withC t cs) z V) (h2:0<maxG t.vars t.goal V) (h3:maxG t.vars t.goal V<inf) (h4:GrtF V (goalN t) g0) (h5:∀ i,i∈K↔i<t.ops.length∧InCut (withC t cs) z V g0 i) (h6:K.Pairwise (·<·)) (h7:MinC cs K c):Pre t z (subC cs K c) (L++[(K,c)]):=fun r hr=>by
 have:=h _ (.step h1 h2 h3 h4 h5 h6 h7 hr)
 have e:(r.map ((K,c)::·)).map (L++·)=r.map ((L++[(K,c)])++·):=by cases r <;> simp
 rw [e] at this;exact this
def minS (m x:Int):Int:=if x<m then x else m
def minK (cs:List Int) (m:Int) (K:List Nat):Int:=K.foldl (fun m i=>minS m (cs.getD i tInt.dflt)) m
theorem qpq {cs:List Int}:∀ {K:List Nat}{m:Int},minK cs m K≤m∧(∀ i∈K,minK cs m K≤cs.getD i tInt.dflt)∧(minK cs m K=m∨∃ i∈K,cs.getD i tInt.dflt=minK cs m K)
 | [],m=>⟨Int.le_refl _,fun i hi=>absurd hi List.not_mem_nil,.inl rfl⟩
 | x::K,m=>by
  obtain⟨h1,h2,h3⟩:=qpq (cs:=cs) (K:=K) (m:=minS m (cs.getD x tInt.dflt))
  have e:minK cs m (x::K)=minK cs (minS m (cs.getD x tInt.dflt)) K:=rfl
  have hs:minS m (cs.getD x tInt.dflt)≤m∧minS m (cs.getD x tInt.dflt)≤cs.getD x tInt.dflt∧(minS m (cs.getD x tInt.dflt)=m∨minS m (cs.getD x tInt.dflt)=cs.getD x tInt.dflt):=by unfold minS;split <;> omega
  rw [e]
  refine⟨by omega,fun i hi => ?_,?_⟩
  ·rcases List.mem_cons.1 hi with e|hi
   ·rw [e];omega
   ·exact h2 i hi
  ·rcases h3 with h3|⟨i,hi,h3⟩
   ·rcases hs.2.2 with h4|h4
    ·exact .inl (by omega)
    ·exact .inr ⟨x,List.mem_cons_self,by omega⟩
   ·exact .inr ⟨i,List.mem_cons_of_mem _ hi,h3⟩
theorem qs9 {t:TTask}{cs:List Int}{K:List Nat}(hc:CostsOk t cs) (hne:K≠[]) (hlt:∀ i∈K,i<cs.length):MinC cs K (minK cs 1048576 K):=by
 obtain⟨h1,h2,h3⟩:=qpq (cs:=cs) (K:=K) (m:=1048576)
 refine⟨?_,h2⟩
 rcases h3 with h3|⟨i,hi,h3⟩
 ·cases K with
  | nil=>exact absurd rfl hne
  | cons x K =>
   have hx:=hlt x List.mem_cons_self
   have h4:=hc.2 _ (qak tInt.dflt hx)
   have h5:=h2 x List.mem_cons_self
   exact⟨x,List.mem_cons_self,hx,by omega⟩
 ·exact⟨i,hi,hlt i hi,h3⟩
theorem qhI {K:List Nat}{k:Nat}(h:k<K.length):K.take (k+1)=K.take k++[K[k]]:=by rw [List.take_add_one,List.getElem?_eq_getElem h];rfl
theorem qru (cs:List Int) (c:Int):subC cs [] c=cs:=by
 unfold subC
 refine List.ext_getElem (by simp) fun i h1 h2 => ?_
 rw [List.getElem_map,List.getElem_range,if_neg List.not_mem_nil,qaj h2]
theorem qrv {cs:List Int}{K:List Nat}{c:Int}{k:Nat}(hk:k<K.length) (ha:K.Pairwise (·<·)) (hl:K[k]<cs.length):(subC cs (K.take k) c).set K[k] ((subC cs (K.take k) c).getD K[k] tInt.dflt-c)=subC cs (K.take (k+1)) c:=by
 have hni:K[k]∉K.take k:=fun h=>by
  obtain⟨j,hj,e⟩:=List.getElem_of_mem h
  rw [List.length_take] at hj
  rw [List.getElem_take] at e
  have:=List.pairwise_iff_getElem.1 ha j k (by omega) hk (by omega)
  omega
 rw [qcR hl,if_neg hni]
 refine List.ext_getElem (by rw [List.length_set,qcp,qcp]) fun i h1 h2 => ?_
 have hi:i<cs.length:=by rw [qcp] at h2;exact h2
 rw [←qaj (d:=tInt.dflt) h1,←qaj (d:=tInt.dflt) h2,qcR hi,qhI hk]
 rw [qbw (by rw [qcp];exact hl)]
 by_cases e:i=K[k]
 ·rw [if_pos e,if_pos (List.mem_append.2 (.inr (List.mem_singleton.2 e))),e]
 ·rw [if_neg e,qcR hi]
  by_cases h:i∈K.take k
  ·rw [if_pos h,if_pos (List.mem_append.2 (.inl h))]
  ·rw [if_neg h,if_neg fun h2=>by
    rcases List.mem_append.1 h2 with h2|h2
    ·exact h h2
    ·exact e (List.mem_singleton.1 h2)]
theorem qta {t:TTask}{V:List Int}(hn:∀ f∈goalN t,0≤f∧0≤dg V f):hiV V (goalN t)=maxG t.vars t.goal V:=by
 rw [qoQ hn]
 unfold goalN maxG
 rw [List.foldl_map]
set_option maxRecDepth 8000 in
set_option maxHeartbeats 16000000 in
theorem qnB {w0:World}{pr:Addr}{a fv gv cv0 lv sv:Value}{us:List CUV}{t:TTask}{z:List Int}(hr:LcR w0 pr t a fv gv cv0 lv us) (hg:GoodT t) (hs:RS tInt w0 sv z) (hok:StateOk t.vars z) :
  Calls Tryz.prog 197 #[.pointer (some pr),sv] w0 fun e w'=>(LMC t z (costsT t) none∧e=.returned (.tuple #[.slice none 0 0,errV 3])∧Sat w0 w' [])∨∃ ov L cl,LMC t z (costsT t) (some L)∧e=.returned (.tuple #[ov,.nilIface])∧cl.map CutV.cost=L.map Prod.snd∧(∀ x∈cl,x.ops.oneCell'=true)∧Sat w0 w' [OS tCut 44 ov cl]:=by
 have hr0:=hr
 obtain⟨hb,hvr,hfr,hgr,hcr,hlr,hll,hF⟩:=hr
 have hol:=hg.ops
 have hat:∀ {w:World}{Γ:List HP},Sat w0 w Γ→LcR w pr t a fv gv cv0 lv us:=fun hw=>⟨hb.at hw,hvr.at hw,hfr.at hw,hgr.at hw,hcr.at hw,hlr.at hw,hll,hF.at hw⟩
 have hgn:∀ f∈goalN t,0≤f∧f<factN t:=fun f hf=>by
  obtain⟨x,hx,rfl⟩:=List.mem_map.1 hf
  obtain⟨i,hi,e⟩:=List.getElem_of_mem hx
  have ho:=(hg.goal i hi).1
  rw [qaj hi,e] at ho
  have h1:=qbf hg.pos ho
  have h2:=qaX hg
  omega
 have hw:=Sat.start w0
 refine qab (args:=[.pointer (some pr),sv]) mixed Tryz.func197 rfl (by kernel_rfl) (Nat.le_of_ble_eq_true rfl) ?_
 repeat refine qaa ?_
 refine qac rfl (qbd (hvr.at hw) (hs.at hw)) ?_
 rintro _ w' ⟨⟨r,rfl,hr'⟩,hk'⟩
 replace hw:=hw.call0 hk'
 clear hk'
 refine⟨_,rfl,?_⟩
 obtain rfl:r=true:=hr'.2 hok
 repeat refine qaa ?_
 refine qac rfl (qax (hcr.at hw) (by rw [qbQ];omega)) ?_
 rintro _ w' ⟨cv,rfl,hk'⟩
 replace hw:Sat w0 w' [OS tInt 3 cv (costsT t)]:=hw.call1 hk'
 clear hk'
 refine⟨_,rfl,?_⟩
 replace hw:=hw.nil (T:=tCut) (e:=44)
 repeat refine qaa ?_
 refine qap [4,5,7,8,9,10,12,14,31,32,33,34,35,36,37,38,39,40,41,42,43,44,45,46,47,48,49,50,51,52,53,54,55,56,57,58,59,60,61,62,63,64,65,66,67,68,69,70,71,72,73,74,75,76,77,78,79,80,81,82,83,84,85,86,87,88] (G:=Value × List Int × List (List Nat × Int) × List CutV) (fun x=>[(7,x.1)]) (fun x w=>CostsOk t x.2.1∧Pre t z x.2.1 x.2.2.1∧x.2.2.2.map CutV.cost=x.2.2.1.map Prod.snd∧(∀ y∈x.2.2.2,y.ops.oneCell'=true)∧x.2.2.2.length+sumD x.2.1≤4294967296∧Sat w0 w [OS tCut 44 x.1 x.2.2.2,OS tInt 3 cv x.2.1]) (fun x=>sumD x.2.1) (.slice none 0 0,costsT t,[],[]) (fun _=>rfl) ⟨rfl,trivial⟩ ⟨qcf hg,Pre.zero,rfl,(fun x hx=>absurd hx List.not_mem_nil),?_,hw⟩ ?_
 ·have h3:=qo4 (cs:=costsT t) (B:=1048576) fun x hx=>(qc7 hg x hx).2
  have h4:(costsT t).length*1048576≤4096*1048576:=Nat.mul_le_mul_right _ (by rw [qbQ];exact hg.ops)
  show 0+sumD (costsT t)≤4294967296
  omega
 clear hw
 rintro σ ⟨ov,cs,L,cl⟩ w ⟨hc,hPre,hcl,hone,hlen,hw⟩
 simp only at hc hPre hcl hone hlen hw
 have hcsl:=hc.1
 repeat refine qaa ?_
 refine qac rfl (qkl (hat hw) hg hc (hs.at hw) hok (rsO (s:=cv) hw)) ?_
 rintro _ w' ⟨vv,V,rfl,hVm,hk'⟩
 replace hw:=hw.call1 hk'
 clear hk'
 refine⟨_,rfl,?_⟩
 have hVl:V.length=factN t:=hVm.len
 have hnd:∀ f∈goalN t,0≤f∧0≤dg V f:=fun f hf=>⟨(hgn f hf).1,(hVm.rng f (hgn f hf).1 (hgn f hf).2).1⟩
 have hgm:=qta hnd
 have hmn:=qc9 t.vars t.goal V
 have hml:maxG t.vars t.goal V≤inf:=hm_le (qbg hg hc) hVm
 have einf:inf=1125899906842624:=rfl
 repeat refine qaa ?_
 refine qac rfl (qcT (hgr.at hw) (rsO (s:=vv) hw) fun f hf=>⟨(hgn f hf).1,by have:=(hgn f hf).2;omega⟩) ?_
 rintro _ w' ⟨rfl,hk'⟩
 replace hw:=hw.call0 hk'
 clear hk'
 refine⟨_,rfl,?_⟩
 rw [hgm]
 repeat refine qaa ?_
 refine go_if (fun h1 => ?_) (fun h1 => ?_)
 ·have hL:=hPre _ (.dead hVm (by omega))
  repeat refine qaa ?_
  exact qav (v:=.slice none 0 0) (v':=.iface 116 (.int .i64 3)) rfl rfl rfl (.inl ⟨hL,by rw [qaA (by decide)],qaG hw⟩)
 repeat refine qaa ?_
 refine go_if (fun h2 => ?_) (fun h2 => ?_)
 ·have hL:=hPre _ (.done hVm h2)
  repeat refine qaa ?_
  exact qav (v:=ov) (v':=.nilIface) rfl rfl rfl (.inr ⟨ov,L,cl,by simpa using hL,rfl,hcl,hone,(hw.tail).only⟩)
 have hp0:0<maxG t.vars t.goal V:=by omega
 have hpf:maxG t.vars t.goal V<inf:=by omega
 have hgne:goalN t≠[]:=fun e=>by
  have:t.goal=[]:=by simpa [goalN] using e
  rw [this] at hp0;exact absurd hp0 (by simp [maxG])
 obtain⟨g0,hgr0⟩:=qg7 (V:=V) hgne
 have X:=qiI hg hok hc hVm hp0 hpf hgr0
 repeat refine qaa ?_
 refine qac rfl (qp2 (hat hw) hg hc (hs.at hw) hok (rsO (s:=cv) hw) (rsO (s:=vv) hw) X) ?_
 rintro _ w' ⟨kv,K,rfl,hasc,hK,hk'⟩
 replace hw:=hw.call1 hk'
 clear hk'
 refine⟨_,rfl,?_⟩
 have hKlt:∀ i∈K,i<cs.length:=fun i hi=>by rw [hcsl];exact ((hK i).1 hi).1
 have hKne:K≠[]:=fun e=>by
  obtain⟨i,h3,h4⟩:=qiJ X
  have:=(hK i).2 ⟨h3,h4⟩
  rw [e] at this;exact absurd this List.not_mem_nil
 have hMin:=qs9 hc hKne hKlt
 have hCA:=ql8 hg hc X hK hasc hMin
 have okv:=(rsO (s:=kv) hw).one
 have hml2:(K.map fun i:Nat=>(i:Int)).length=K.length:=List.length_map _
 repeat refine qaa ?_
 refine qbT (v1:=kv) (v2:=.int .i64 1048576) rfl rfl rfl (by simp only [List.all_cons,List.all_nil,okv];rfl) ?_
 repeat (first|refine qaa ?_|(refine qaf ?_;clear hw;intro p w hw))
 obtain⟨pc,hpc⟩:∃ pc,pc=p:=⟨p,rfl⟩
 subst hpc
 refine qat (n:=2) (p:=pc) (vs:=[kv,.int .i64 1048576]) rfl rfl hw inferInstance rfl rfl (by simp only [List.all_cons,List.all_nil,okv];rfl) ?_
 clear hw
 intro w hw
 obtain⟨KI,hKI⟩:∃ KI,KI=K.map fun i:Nat=>(i:Int):=⟨_,rfl⟩
 rw [←hKI] at hw hml2
 have hKl:K.length≤t.ops.length:=by
  have h1:=qd1 (l:=K) (m:=List.range t.ops.length) (hasc.imp fun h=>Nat.ne_of_lt h) fun i hi=>List.mem_range.2 ((hK i).1 hi).1
  rw [List.length_range] at h1;exact h1
 have hKat:∀ k (h:k<K.length),KI.getD k tInt.dflt=(K[k]:Int):=fun k h=>by
  rw [hKI,qaj (by rw [List.length_map];exact h),List.getElem_map]
 repeat refine qaa ?_
 refine qap [12,56,57,58,59,60,61,62,63,64,65,66,67,68] (G:=Nat) (fun k=>[(56,.int .i64 k)]) (fun k w=>k≤K.length∧Sat w0 w [Box pc 44 [kv,.int .i64 (minK cs 1048576 (K.take k))],OS tInt 3 kv KI,OS tInt 3 vv V,OS tCut 44 ov cl,OS tInt 3 cv cs]) (fun k=>K.length-k) 0 (fun _=>rfl) ⟨rfl,trivial⟩ ⟨Nat.zero_le _,hw⟩ ?_
 clear hw
 rintro σ1 k w ⟨hk,hw⟩
 repeat refine qaa ?_
 refine go_if (fun h3 => ?_) (fun h3 => ?_)
 ·have hkl:k<K.length:=by omega
  have hki:=hKat k hkl
  have hkc:=hKlt _ (List.getElem_mem hkl)
  have hsn:minK cs 1048576 (K.take (k+1))=minS (minK cs 1048576 (K.take k)) (cs.getD K[k] tInt.dflt):=by rw [qhI hkl];unfold minK;rw [List.foldl_append];rfl
  repeat refine qaa ?_
  refine qbu ?_
  clear hw
  intro w hw
  repeat (first|refine qaa ?_|(refine qai ?_;clear hw;intro w hw))
  simp only [List.set_cons_succ,List.set_cons_zero] at hw
  rw [hki,Int.toNat_natCast,show (if cs.getD K[k] tInt.dflt<minK cs 1048576 (K.take k) then cs.getD K[k] tInt.dflt else minK cs 1048576 (K.take k))=minK cs 1048576 (K.take (k+1)) from hsn.symm] at hw
  exact⟨k+1,⟨rfl,trivial⟩,agr,⟨by omega,hw⟩,by omega⟩
 have hke:k=K.length:=by omega
 rw [hke,List.take_of_length_le (Nat.le_refl _)] at hw
 obtain⟨c,hcd⟩:∃ c,c=minK cs 1048576 K:=⟨_,rfl⟩
 rw [←hcd] at hw hMin hCA
 rw [←qru cs c] at hw
 have hcl0:=hCA.pos
 have hcl1:=hCA.le
 repeat refine qaa ?_
 refine qap [14,72,73,74,75,76,77,78,79,80,81,82,83,84] (G:=Nat) (fun k=>[(72,.int .i64 k)]) (fun k w=>k≤K.length∧Sat w0 w [Box pc 44 [kv,.int .i64 c],OS tInt 3 kv KI,OS tInt 3 vv V,OS tCut 44 ov cl,OS tInt 3 cv (subC cs (K.take k) c)]) (fun k=>K.length-k) 0 (fun _=>rfl) ⟨rfl,trivial⟩ ⟨Nat.zero_le _,hw⟩ ?_
 clear hw
 rintro σ2 k w ⟨hk,hw⟩
 repeat refine qaa ?_
 refine go_if (fun h4 => ?_) (fun h4 => ?_)
 ·have hkl:k<K.length:=by omega
  have hki:=hKat k hkl
  have hkc:=hKlt _ (List.getElem_mem hkl)
  have hsl:=qcp cs (K.take k) c
  have hst:=qrv (c:=c) hkl hasc hkc
  have hcr:=hc.2 _ (qak tInt.dflt hkc)
  have hsa:=qcR (cs:=cs) (K:=K.take k) (c:=c) hkc
  have hsr : -1048576≤(subC cs (K.take k) c).getD K[k] tInt.dflt∧(subC cs (K.take k) c).getD K[k] tInt.dflt≤1048576:=by
   rw [hsa];split <;> omega
  have hk2:(KI.getD k tInt.dflt).toNat=K[k]:=by rw [hki];rfl
  have hsr2 : -1048576≤(subC cs (K.take k) c).getD (KI.getD k tInt.dflt).toNat tInt.dflt∧(subC cs (K.take k) c).getD (KI.getD k tInt.dflt).toNat tInt.dflt≤1048576:=by rw [hk2];exact hsr
  repeat refine qaa ?_
  refine qbu ?_
  clear hw
  intro w hw
  repeat (first|refine qaa ?_|(refine qai ?_;clear hw;intro w hw))
  rw [hk2,hst] at hw
  exact⟨k+1,⟨rfl,trivial⟩,agr,⟨by omega,hw⟩,by omega⟩
 have hke2:k=K.length:=by omega
 rw [hke2,List.take_of_length_le (Nat.le_refl _)] at hw
 have hsum:=qiE (fun x hx=>(hc.2 x hx).1) (by omega) hMin
 repeat refine qaa ?_
 refine qah tCut (x1:=⟨kv,c⟩) rfl rfl rfl (Nat.le_of_ble_eq_true rfl) (Nat.zero_lt_succ _) hw ?_
 clear hw
 intro so w hw
 refine qaJ (s:=ov) (s2:=so) inferInstance rfl rfl (rsO hw) rfl rfl (fun x hx v hv => ?_) (by simp only [List.length_cons,List.length_nil];omega) (by unfold big;simp only [List.length_cons,List.length_nil];omega) hw ?_
 ·rw [List.mem_singleton.1 hx] at hv
  simp only [tCut,List.mem_cons,List.not_mem_nil,or_false] at hv
  rcases hv with rfl|rfl
  ·exact okv
  ·rfl
 clear hw
 intro ov2 w hw
 repeat refine qaa ?_
 exact⟨(ov2,subC cs K c,L++[(K,c)],cl++[⟨kv,c⟩]),⟨rfl,trivial⟩,agr,⟨qgs hc hMin,hPre.step hVm hp0 hpf hgr0 hK hasc hMin,by simp [hcl],fun x hx=>(by
  rcases List.mem_append.1 hx with hx|hx
  ·exact hone x hx
  ·rw [List.mem_singleton.1 hx];exact okv),by simp only [List.length_append,List.length_singleton];omega,hw.sel⟩,by simp only;omega⟩
end Go.Proofs.YtkmbenhffledpaaGreat
/-
  Contract of LM-cut's 'Value'.
-/
namespace Go.Proofs.YtkmbenhffledpaaGreat
open Go.Sl Go
attribute [local irreducible] vc opsW opsD opV opW PureV ReadV Thn Blk
def sI:List Int→Int
 | []=>0
 | x::l=>x+sI l
theorem qpj:∀ (a b:List Int),sI (a++b)=sI a+sI b
 | [],b=>by show sI b=0+sI b;omega
 | x::a,b=>by
  show x+sI (a++b)=x+sI a+sI b
  rw [qpj a b];omega
theorem sI_nn:∀ {l:List Int},(∀ x∈l,0≤x)→0≤sI l
 | [],_=>Int.le_refl _
 | x::l,h=>by
  have h1:=h x List.mem_cons_self
  have h2:=sI_nn fun y hy=>h y (List.mem_cons_of_mem x hy)
  show 0≤x+sI l
  omega
theorem qpk {l:List Int}(h:∀ x∈l,0≤x) (k:Nat):0≤sI (l.take k)∧sI (l.take k)≤sI l:=by
 have h1:=qpj (l.take k) (l.drop k)
 rw [List.take_append_drop] at h1
 have h2:=sI_nn (l:=l.take k) fun x hx=>h x (List.mem_of_mem_take hx)
 have h3:=sI_nn (l:=l.drop k) fun x hx=>h x (List.mem_of_mem_drop hx)
 omega
theorem qpl:∀ (L:List (List Nat × Int)),sumK L=sI (L.map Prod.snd)
 | []=>rfl
 | x::L=>by
  show x.2+sumK L=x.2+sI (L.map Prod.snd)
  rw [qpl L]
theorem qtu {t:TTask}{z cs:List Int}{r:Option (List (List Nat × Int))}(h:LMC t z cs r):CostsOk t cs→∀ l,r=some l→∀ x∈l,0≤x.2:=by
 induction h with
 | dead _ _=>intro _ l e;cases e
 | done _ _=>intro _ l e x hx;cases e;exact absurd hx List.not_mem_nil
 | @step cs V g0 K c r _ _ _ _ _ _ h7 _ ih =>
  intro hc l e x hx
  have hsub:=qgs hc h7
  obtain⟨⟨i,i1,i2,i3⟩,i4⟩:=h7
  have hc0:0≤c:=by have:=hc.2 _ (qak tInt.dflt i2);omega
  cases r with
  | none=>cases e
  | some l' =>
   have e2:l=(K,c)::l':=(Option.some.inj e).symm
   subst e2
   rcases List.mem_cons.1 hx with e3|hx
   ·rw [e3];exact hc0
   ·exact ih hsub l' rfl x hx
set_option maxRecDepth 8000 in
set_option maxHeartbeats 8000000 in
theorem qll {w0:World}{pr:Addr}{a fv gv cv0 lv sv:Value}{us:List CUV}{t:TTask}{z:List Int}(hr:LcR w0 pr t a fv gv cv0 lv us) (hg:GoodT t) (hs:RS tInt w0 sv z) (hok:StateOk t.vars z) :
  Calls Tryz.prog 196 #[.pointer (some pr),sv] w0 fun e w'=>e=.returned (.int .i64 (lmH t z))∧Sat w0 w' []:=by
 have hw:=Sat.start w0
 refine qab (args:=[.pointer (some pr),sv]) mixed Tryz.func196 rfl (by kernel_rfl) (Nat.le_of_ble_eq_true rfl) ?_
 repeat refine qaa ?_
 obtain⟨hb,hvr,hfr,hgr,hcr,hlr,hll,hF⟩:=hr
 refine qac rfl (qnB ⟨hb.at hw,hvr.at hw,hfr.at hw,hgr.at hw,hcr.at hw,hlr.at hw,hll,hF.at hw⟩ hg (hs.at hw) hok) ?_
 rintro _ w' (⟨hL,rfl,hk'⟩|⟨ov,L,cl,hL,rfl,hcl,hone,hk'⟩)
 ·replace hw:=hw.call0 hk'
  clear hk'
  refine⟨_,rfl,?_⟩
  rw [qaA (show (3:Int)≠0 by decide)]
  repeat refine qaa ?_
  exact qae (v:=.int .i64 1125899906842624) rfl rfl ⟨by rw [lm_eq hok hL];rfl,qaG hw⟩
 replace hw:=hw.call1 hk'
 clear hk'
 refine⟨_,rfl,?_⟩
 have hnn:∀ x∈cl.map CutV.cost,0≤x:=fun x hx=>by
  rw [hcl] at hx
  obtain⟨y,hy,rfl⟩:=List.mem_map.1 hx
  exact qtu hL (qcf hg) L rfl y hy
 have hsm:=qiF hg hL
 have hse:sI (cl.map CutV.cost)=sumK L:=by rw [hcl,qpl]
 have hml:(cl.map CutV.cost).length=cl.length:=List.length_map _
 have hbig:=(rsO (s:=ov) hw).big
 repeat refine qaa ?_
 refine qao [7,9,22,23,24,25,26,27,28,29,30] (G:=Nat) (H:=Int) (fun k m=>[(22,.int .i64 k),(7,.int .i64 m)]) (fun k m w=>k≤cl.length∧m=sI ((cl.map CutV.cost).take k)∧Sat w0 w [OS tCut 44 ov cl]) (fun k _=>cl.length-k) 0 0 (fun _ _=>rfl) ⟨rfl,rfl,trivial⟩ ⟨Nat.zero_le _,rfl,hw⟩ ?_
 clear hw
 rintro σ k m w ⟨hk,hm,hw⟩
 repeat refine qaa ?_
 refine go_if (fun h1 => ?_) (fun h1 => ?_)
 ·have hkl:k<cl.length:=by omega
  have hsn:sI ((cl.map CutV.cost).take (k+1))=m+(eget tCut cl k).cost:=by
   rw [qan tInt.dflt (by rw [hml];exact hkl),qpj,←hm,qaB,qaj (by rw [hml];exact hkl),List.getElem_map,qaj hkl]
   show m+(_+0)=_
   omega
  have hbd:=qpk hnn (k+1)
  have hbm:=qpk hnn k
  rw [←hm] at hbm
  have ouk:=hone _ (qak (d:=tCut.dflt) hkl)
  rw [←qaB] at ouk
  have houk:(tCut.enc (eget tCut cl k)).all Value.oneCell'=true:=by
   show ((eget tCut cl k).ops.oneCell' && ((Value.int .i64 (eget tCut cl k).cost).oneCell' && true))=true
   rw [ouk];rfl
  rw [hsn] at hbd
  repeat (first|refine qaa ?_|(refine qaf ?_;clear hw;intro p w hw)|(refine qai ?_;clear hw;intro w hw))
  exact⟨k+1,_,⟨rfl,rfl,trivial⟩,agr,⟨by omega,hsn.symm,hw.tail⟩,by omega⟩
 have hke:k=cl.length:=by omega
 rw [hke,List.take_of_length_le (by rw [hml];exact Nat.le_refl _),hse] at hm
 repeat refine qaa ?_
 exact qae (v:=.int .i64 m) rfl rfl ⟨by rw [lm_eq hok hL,hm];rfl,qaG hw⟩
end Go.Proofs.YtkmbenhffledpaaGreat
