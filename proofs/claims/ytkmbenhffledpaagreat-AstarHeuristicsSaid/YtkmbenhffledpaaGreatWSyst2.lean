/-
  Contract of 'patterns.Systematic'.
-/
import Derived.Test.YtkmbenhffledpaaGreatWSyst
set_option linter.unusedSimpArgs false
set_option linter.unusedVariables false
namespace Go.Proofs.YtkmbenhffledpaaGreat
open Go.Sl Go
attribute [local irreducible] vc opsW opsD opV opW PureV ReadV Thn Blk
def goalV (t:TTask) (v:Nat):Prop:=∃ f∈t.goal,f.var=(v:Int)
theorem qqK {t:TTask}{v:Nat}:goalV t v↔∃ i,i<t.goal.length∧(t.goal.getD i tFact.dflt).var=(v:Int):=qoe
theorem qoI {t:TTask}{a:Nat}:sysP t [(a:Int)]↔goalV t a:=by
 constructor
 ·rintro⟨⟨v,hv,h⟩,_⟩
  rw [List.mem_singleton.1 hv] at h;exact h
 ·exact fun h=>⟨⟨a,List.mem_singleton_self _,h⟩,qrE⟩
theorem qsH {t:TTask}{a b:Nat}:sysP t [(a:Int),(b:Int)]↔(goalV t a∨goalV t b)∧nearT t a b:=by
 unfold sysP
 rw [qrF]
 refine and_congr ?_ Iff.rfl
 unfold goalP goalV
 simp [or_and_right,exists_or]
theorem qoJ {t:TTask}{a b c:Nat}:sysP t [(a:Int),(b:Int),(c:Int)]↔(goalV t a∨goalV t b∨goalV t c)∧((nearT t a b∧nearT t b c)∨(nearT t a b∧nearT t a c)∨(nearT t a c∧nearT t b c)):=by
 unfold sysP
 rw [qnd]
 refine and_congr ?_ Iff.rfl
 unfold goalP goalV
 simp [or_and_right,exists_or]
theorem qoK {t:TTask}{x y:Nat}(hx:x<t.vars.length) (hy:y<t.vars.length):(∃ i,i<(arcAll t t.vars.length).length∧(((arcAll t t.vars.length).getD i tArc.dflt).src=(x:Int)∧((arcAll t t.vars.length).getD i tArc.dflt).dst=(y:Int)∨((arcAll t t.vars.length).getD i tArc.dflt).dst=(x:Int)∧((arcAll t t.vars.length).getD i tArc.dflt).src=(y:Int)))↔nearT t x y:=by
 constructor
 ·rintro⟨i,hi,h⟩
  obtain⟨u,v,_,_,ha,e⟩:=qdC.1 (qak tArc.dflt hi)
  rw [e] at h
  simp only at h
  rcases h with ⟨h1,h2⟩|⟨h1,h2⟩
  ·exact .inl (by rw [←h1,←h2];exact ha)
  ·exact .inr (by rw [←h1,←h2];exact ha)
 ·rintro (h|h)
  ·obtain⟨i,hi,e⟩:=List.getElem_of_mem (qdC.2 ⟨x,y,hx,hy,h,rfl⟩)
   exact⟨i,hi,by rw [qaj hi,e];exact .inl ⟨rfl,rfl⟩⟩
  ·obtain⟨i,hi,e⟩:=List.getElem_of_mem (qdC.2 ⟨y,x,hy,hx,h,rfl⟩)
   exact⟨i,hi,by rw [qaj hi,e];exact .inr ⟨rfl,rfl⟩⟩
def clip3 (size:Int):Nat:=(max 1 (min size 3)).toNat
theorem qoL (size:Int):1≤clip3 size∧clip3 size≤3:=by unfold clip3;omega
set_option maxRecDepth 8000 in
set_option maxHeartbeats 8000000 in
theorem qgJ {w0:World}{a b c d:Value}{vs:List OpV}{t:TTask}{size:Int}(ht:RTask w0 a b c d vs t) (hg:GoodT t) (hn:t.vars.length≤12) :
  Calls Tryz.prog 78 #[.agg #[a,b,c,d],.int .i64 size] w0 fun e w'=>∃ ov os,e=.returned (.tuple #[ov,.nilIface])∧Sat w0 w' [RowsAt tInt 3 os (sysL t (clip3 size)),OS tVal 22 ov os]:=by
 have ht':=ht
 obtain⟨ha,hb,hc,hd⟩:=ht
 have hvb:=ha.big
 have hgb:=hc.big
 have hw:=Sat.start w0
 refine qab (args:=[.agg #[a,b,c,d],.int .i64 size]) mixed Tryz.func78 rfl (by kernel_rfl) (Nat.le_of_ble_eq_true rfl) ?_
 repeat (first|refine qaa ?_|(refine qaf ?_;clear hw;intro p w hw))
 obtain⟨pt,hpt⟩:∃ pt,pt=p:=⟨p,rfl⟩
 subst hpt
 refine qac rfl (qpZ (ht'.at hw) hg) ?_
 rintro _ w' ⟨av,rfl,hk'⟩
 replace hw:=hw.call1 hk'
 clear hk'
 refine⟨_,rfl,?_⟩
 have hal:=qhR t t.vars.length
 have hal2:t.vars.length*t.vars.length≤12*12:=Nat.mul_le_mul hn hn
 have hmem:∀ i,i<(arcAll t t.vars.length).length→(0≤((arcAll t t.vars.length).getD i tArc.dflt).src∧((arcAll t t.vars.length).getD i tArc.dflt).src<t.vars.length)∧(0≤((arcAll t t.vars.length).getD i tArc.dflt).dst∧((arcAll t t.vars.length).getD i tArc.dflt).dst<t.vars.length):=fun i hi=>by
  obtain⟨u,v,hu,hv,_,e⟩:=qdC.1 (qak tArc.dflt hi)
  rw [e];simp only;omega
 repeat (first|refine qaa ?_|(refine qaq ?_;clear hw;intro s w hw))
 obtain⟨out,hout⟩:∃ out,out=s:=⟨s,rfl⟩
 subst hout
 have hw:=hw.rowsNil (T:=tBool) (e:=4) t.vars.length
 rw [←qmr] at hw
 obtain⟨ss,hss⟩:∃ ss,ss=List.replicate t.vars.length (Value.slice none 0 0):=⟨_,rfl⟩
 have hsl:ss.length=t.vars.length:=by rw [hss];simp
 have hw1:Sat w0 w [RowsAt tBool 4 ss (mkR t.vars.length 0),OS tVal 150 out ss,OS tArc 200 av (arcAll t t.vars.length),Box pt 26 [a,b,c,d]]:=by rw [hss];exact hw
 clear hw hss
 have hl0:(List.replicate (↑t.vars.length:Int).toNat (Value.slice none 0 0)).length=t.vars.length:=by simp
 refine qao [10,39,40,41,42,43,44,45,46,47] (G:=Nat) (H:=List Value) (fun k _=>[(39,.int .i64 k)]) (fun k ss w=>k≤t.vars.length∧ss.length=t.vars.length∧Sat w0 w [RowsAt tBool 4 ss (mkR t.vars.length k),OS tVal 150 out ss,OS tArc 200 av (arcAll t t.vars.length),Box pt 26 [a,b,c,d]]) (fun k _=>t.vars.length-k) 0 ss (fun _ _=>rfl) ⟨rfl,trivial⟩ ⟨Nat.zero_le _,hsl,hw1⟩ ?_
 clear hw1 hsl ss
 rintro σ k ss w ⟨hk,hsl,hw⟩
 repeat refine qaa ?_
 refine go_if (fun h1 => ?_) (fun h1 => ?_)
 ·repeat (first|refine qaa ?_|(refine qag ?_;clear hw;intro w hw)|(refine qaq ?_;clear hw;intro s w hw))
  replace hw:=Sat.rowNew (i:=k) (by rw [qpJ];omega) hw
  rw [Int.toNat_natCast,qpL] at hw
  exact⟨k+1,_,⟨rfl,trivial⟩,agr,⟨by omega,by rw [List.length_set];exact hsl,hw⟩,by omega⟩
 have hke:k=t.vars.length:=by omega
 subst hke
 rw [qpK] at hw
 clear hl0 h1
 repeat refine qaa ?_
 refine qao [12,50,51,52,53,54,55,56,57,58,59,60,61,62,63,64,65,66,67,68,69,70] (G:=Nat) (H:=List (List Bool)) (fun k _=>[(50,.int .i64 k)]) (fun k M w=>k≤(arcAll t t.vars.length).length∧MI M t.vars.length (fun x y=>(∃ i,i<k∧(((arcAll t t.vars.length).getD i tArc.dflt).src=(x:Int)∧((arcAll t t.vars.length).getD i tArc.dflt).dst=(y:Int)∨((arcAll t t.vars.length).getD i tArc.dflt).dst=(x:Int)∧((arcAll t t.vars.length).getD i tArc.dflt).src=(y:Int))))∧Sat w0 w [RowsAt tBool 4 ss M,OS tVal 150 out ss,OS tArc 200 av (arcAll t t.vars.length),Box pt 26 [a,b,c,d]]) (fun k _=>(arcAll t t.vars.length).length-k) 0 _ (fun _ _=>rfl) ⟨rfl,trivial⟩ ⟨Nat.zero_le _,(MI.rep t.vars.length).congr fun v u _ _=>⟨False.elim,fun⟨op,h,_⟩=>absurd h (Nat.not_lt_zero _)⟩,hw⟩ ?_
 clear hw hk
 rintro σ k M w ⟨hk,hM,hw⟩
 repeat refine qaa ?_
 refine go_if (fun h1 => ?_) (fun h1 => ?_)
 ·have hkl:k<(arcAll t t.vars.length).length:=by omega
  have hmk:=hmem k hkl
  have hlen:=hM.len
  have hssl:=hw.rowsLen
  repeat (first|refine qaa ?_|(refine qaf ?_;clear hw;intro p w hw)|(refine qai ?_;clear hw;intro w hw))
  refine qas [.op 0,.op 1,.op 2,.op 3,.op 4,.op 5,.op 6,.op 7,.op 8,.op 9,.op 10,.op 11,.op 12,.op 13,.op 14,.op 15,.chk 13,.op 16,.op 17] hw (by kernel_rfl) ?_;clear hw;intro w hw
  repeat refine qaa ?_
  have hw1:Sat w0 w [RowsAt tBool 4 ss M,OS tVal 150 out ss,Box p 200 (tArc.enc ((arcAll t t.vars.length).getD k tArc.dflt)),OS tArc 200 av (arcAll t t.vars.length),Box pt 26 [a,b,c,d]]:=hw.sel
  clear hw
  have hrl:=hM.row ((arcAll t t.vars.length).getD k tArc.dflt).src.toNat (by omega)
  have hw:=hw1.rowOut (i:=((arcAll t t.vars.length).getD k tArc.dflt).src.toNat) (by omega)
  clear hw1
  repeat (first|refine qaa ?_|(refine qai ?_;clear hw;intro w hw))
  replace hw:=Sat.rowBack (i:=((arcAll t t.vars.length).getD k tArc.dflt).src.toNat) (by omega) (by omega) hw
  have hM1:=hM.setT (v:=((arcAll t t.vars.length).getD k tArc.dflt).src.toNat) (u:=((arcAll t t.vars.length).getD k tArc.dflt).dst.toNat) (by omega) (by omega)
  obtain⟨M1,hM1e⟩:∃ M1,M1=setM M ((arcAll t t.vars.length).getD k tArc.dflt).src.toNat ((arcAll t t.vars.length).getD k tArc.dflt).dst.toNat true:=⟨_,rfl⟩
  rw [←hM1e] at hM1
  change Sat w0 w (RowsAt tBool 4 ss (setM M ((arcAll t t.vars.length).getD k tArc.dflt).src.toNat ((arcAll t t.vars.length).getD k tArc.dflt).dst.toNat true)::_) at hw
  rw [←hM1e] at hw
  have hlen1:=hM1.len
  have hrl1:=hM1.row ((arcAll t t.vars.length).getD k tArc.dflt).dst.toNat (by omega)
  replace hw:=hw.rowOut (i:=((arcAll t t.vars.length).getD k tArc.dflt).dst.toNat) (by omega)
  repeat (first|refine qaa ?_|(refine qai ?_;clear hw;intro w hw))
  replace hw:=Sat.rowBack (i:=((arcAll t t.vars.length).getD k tArc.dflt).dst.toNat) (by omega) (by omega) hw
  change Sat w0 w (RowsAt tBool 4 ss (setM M1 ((arcAll t t.vars.length).getD k tArc.dflt).dst.toNat ((arcAll t t.vars.length).getD k tArc.dflt).src.toNat true)::_) at hw
  repeat refine qaa ?_
  refine⟨k+1,setM M1 ((arcAll t t.vars.length).getD k tArc.dflt).dst.toNat ((arcAll t t.vars.length).getD k tArc.dflt).src.toNat true,⟨rfl,trivial⟩,agr,⟨by omega,?_,hw.sel⟩,by omega⟩
  exact (hM1.setT (v:=((arcAll t t.vars.length).getD k tArc.dflt).dst.toNat) (u:=((arcAll t t.vars.length).getD k tArc.dflt).src.toNat) (by omega) (by omega)).congr fun x y _ _=>by
   rw [qeU,or_assoc]
   refine or_congr Iff.rfl (or_congr ⟨fun h=>⟨by omega,by omega⟩,fun h=>⟨by omega,by omega⟩⟩ ⟨fun h=>⟨by omega,by omega⟩,fun h=>⟨by omega,by omega⟩⟩)
 have hke:k=(arcAll t t.vars.length).length:=by omega
 subst hke
 have hN:MI M t.vars.length (fun x y=>nearT t (x:Int) (y:Int)):=hM.congr fun x y hx hy=>qoK hx hy
 clear hM
 have hMl:=hN.len
 repeat (first|refine qaa ?_|(refine qaq ?_;clear hw;intro s w hw))
 obtain⟨gv,hgv⟩:∃ gv,gv=s:=⟨s,rfl⟩
 subst hgv
 rw [Int.toNat_natCast] at hw
 refine qao [15,76,77,78,79,80,81,82,83,84] (G:=Nat) (H:=List Bool) (fun k _=>[(76,.int .i64 k)]) (fun k G w=>k≤t.goal.length∧VI G t.vars.length (fun x=>(∃ i,i<k∧(t.goal.getD i tFact.dflt).var=(x:Int)))∧Sat w0 w [OS tBool 4 gv G,RowsAt tBool 4 ss M,OS tVal 150 out ss,Box pt 26 [a,b,c,d]]) (fun k _=>t.goal.length-k) 0 _ (fun _ _=>rfl) ⟨rfl,trivial⟩ ⟨Nat.zero_le _,(VI.rep t.vars.length).congr fun v _=>⟨False.elim,fun⟨op,h,_⟩=>absurd h (Nat.not_lt_zero _)⟩,hw.sel⟩ ?_
 clear hw hk
 rintro σ k G w ⟨hk,hG,hw⟩
 have hGl:=hG.len
 repeat refine qaa ?_
 refine go_if (fun h1 => ?_) (fun h1 => ?_)
 ·have hkl:k<t.goal.length:=by omega
  have hfo:=qbx hg.goal _ (qak tFact.dflt hkl)
  unfold FactOk at hfo
  repeat (first|refine qaa ?_|(refine qaf ?_;clear hw;intro p w hw)|(refine qag ?_;clear hw;intro w hw))
  refine⟨k+1,_,⟨rfl,trivial⟩,agr,⟨by omega,?_,hw.tail⟩,by omega⟩
  exact (hG.setT (u:=(t.goal.getD k tFact.dflt).var.toNat) (by omega)).congr fun x _=>by
   rw [qeU]
   exact or_congr Iff.rfl ⟨fun h=>by omega,fun h=>by omega⟩
 have hke:k=t.goal.length:=by omega
 subst hke
 have hV:VI G t.vars.length (goalV t):=hG.congr fun x _=>qqK.symm
 clear hG hk h1
 obtain⟨κ,hκ⟩:∃ κ,κ=clip3 size:=⟨_,rfl⟩
 have hκr:=qoL size
 rw [←hκ] at hκr ⊢
 have hcl:(if (if 3<size then 3 else size)>1 then if 3<size then 3 else size else 1)=(κ:Int):=by rw [hκ];unfold clip3;split <;> split at*<;> omega
 repeat refine qaa ?_
 have hw1:Sat w0 w [RowsAt tInt 3 [] (s1K t 0),OS tVal 22 (.slice none 0 0) [],OS tBool 4 gv G,RowsAt tBool 4 ss M,OS tVal 150 out ss,Box pt 26 [a,b,c,d]]:=hw.nil.rows0
 clear hw
 refine qay [16,17,89,90,91,92,93,94,95,96,97,98,99,100,101] (G:=Nat) (H:=Value) (I:=List Value) (fun k ov _=>[(89,.int .i64 k),(16,ov)]) (fun k ov os w=>k≤t.vars.length∧Sat w0 w [RowsAt tInt 3 os (s1K t k),OS tVal 22 ov os,OS tBool 4 gv G,RowsAt tBool 4 ss M,OS tVal 150 out ss,Box pt 26 [a,b,c,d]]) (fun k _ _=>t.vars.length-k) 0 (.slice none 0 0) [] (fun _ _ _=>rfl) ⟨rfl,rfl,trivial⟩ ⟨Nat.zero_le _,hw1⟩ ?_
 clear hw1
 rintro σ k ov os w ⟨hk,hw⟩
 repeat refine qaa ?_
 refine go_if (fun h1 => ?_) (fun h1 => ?_)
 ·have hkl:k<t.vars.length:=by omega
  have hat:=hV.at_ k hkl
  have hlen:=qpI (t:=t) hn (k:=k) (by omega)
  have hol:=hw.rowsLen
  have hsk:s1K t (k+1)=s1K t k++ifP t [(k:Int)]:=by unfold s1K;rw [qaN (Nat.zero_le k)]
  repeat refine qaY ?_
  cases hb:G.getD k tBool.dflt with
  | false =>
   rw [show G.getD k false=false from hb] at hat
   repeat refine qaa ?_
   exact⟨k+1,ov,os,⟨rfl,rfl,trivial⟩,agr,⟨by omega,by rw [hsk,qk2 (fun h=>by have:=hat.2 (qoI.1 h);cases this),List.append_nil];exact hw⟩,by omega⟩
  | true =>
   rw [show G.getD k false=true from hb] at hat
   repeat (first|refine qaa ?_|(refine qaq ?_;clear hw;intro s w hw))
   exact⟨k+1,_,_,⟨rfl,rfl,trivial⟩,agr,⟨by omega,by rw [hsk,qpD (qoI.2 (hat.1 rfl))];exact hw.tail.rowPush⟩,by omega⟩
 have hke:k=t.vars.length:=by omega
 subst hke
 have h1l:=qpI (t:=t) hn (Nat.le_refl _)
 have hs2z:s2K t t.vars.length 0=[]:=qbI (Nat.le_refl _)
 have hw1:Sat w0 w [RowsAt tInt 3 os (s1K t t.vars.length++s2K t t.vars.length 0),OS tVal 22 ov os,OS tBool 4 gv G,RowsAt tBool 4 ss M,OS tVal 150 out ss,Box pt 26 [a,b,c,d]]:=by rw [hs2z,List.append_nil];exact hw
 clear hw h1 hk
 repeat refine qaa ?_
 refine qay [16,18,19,102,103,104,105,106,107,108,109,110,111,112,113,114,115,116,117,118,119,120,121,122,123,124,125,126,127,128,129,130,131,132,133,134,135,136,137,138,139,140,141,142] (G:=Nat) (H:=Value) (I:=List Value) (fun k ov _=>[(18,.int .i64 k),(16,ov)]) (fun k ov os w=>k≤t.vars.length∧(2≤κ∨k=0)∧Sat w0 w [RowsAt tInt 3 os (s1K t t.vars.length++s2K t t.vars.length k),OS tVal 22 ov os,OS tBool 4 gv G,RowsAt tBool 4 ss M,OS tVal 150 out ss,Box pt 26 [a,b,c,d]]) (fun k _ _=>t.vars.length-k) 0 ov os (fun _ _ _=>rfl) ⟨rfl,rfl,trivial⟩ ⟨Nat.zero_le _,.inr rfl,hw1⟩ ?_
 clear hw1
 rintro σ1 k ov os w ⟨hk,hk2,hw⟩
 have hoo:=hw.rowsLen
 repeat refine qaa ?_
 refine go_if (fun h1 => ?_) (fun h1 => ?_)
 ·rw [hcl] at h1
  have hkn:k<t.vars.length:=by omega
  have hlen2:=qsj hn hkn (Nat.le_refl _)
  repeat refine qaa ?_
  have hs2b:s2B t k (k+1)=[]:=qbI (Nat.le_refl _)
  have hw1:Sat w0 w [RowsAt tInt 3 os (s1K t t.vars.length++s2K t t.vars.length k++s2B t k (k+1)),OS tVal 22 ov os,OS tBool 4 gv G,RowsAt tBool 4 ss M,OS tVal 150 out ss,Box pt 26 [a,b,c,d]]:=by rw [hs2b,List.append_nil];exact hw
  clear hw hoo
  refine qay [16,19,113,114,115,116,117,118,119,120,121,122,123,124,125,126,127,128,129,130,131,132,133,134,135,136,137,138,139,140,141,142] (G:=Nat) (H:=Value) (I:=List Value) (fun j ov _=>[(19,.int .i64 j),(16,ov)]) (fun j ov os w=>k+1≤j∧j≤t.vars.length∧Sat w0 w [RowsAt tInt 3 os (s1K t t.vars.length++s2K t t.vars.length k++s2B t k j),OS tVal 22 ov os,OS tBool 4 gv G,RowsAt tBool 4 ss M,OS tVal 150 out ss,Box pt 26 [a,b,c,d]]) (fun j _ _=>t.vars.length-j) (k+1) ov os (fun _ _ _=>rfl) ⟨rfl,rfl,trivial⟩ ⟨Nat.le_refl _,by omega,hw1⟩ ?_
  clear hw1
  rintro σ2 j ov1 os1 w ⟨hj0,hj,hw⟩
  repeat refine qaa ?_
  refine go_if (fun h2 => ?_) (fun h2 => ?_)
  ·have hjn:j<t.vars.length:=by omega
   have hat1:=hV.at_ k hkn
   have hat2:=hV.at_ j hjn
   have hat3:=hN.at_ k j hkn hjn
   have hlen3:=qsj hn hkn hj
   have hol:=hw.rowsLen
   rw [List.length_append,List.length_append] at hol
   have hsk:s2B t k (j+1)=s2B t k j++ifP t [(k:Int),(j:Int)]:=by unfold s2B;rw [qaN hj0]
   have hrow:=hw.tail.tail.tail.row (i:=k) (by omega)
   have hrl:=hN.row k hkn
   have hiff:((G.getD k tBool.dflt || G.getD j tBool.dflt) && (M.getD k []).getD j tBool.dflt)=true↔sysP t [(k:Int),(j:Int)]:=by
    rw [qsH,←hat1,←hat2,←hat3,Bool.and_eq_true,Bool.or_eq_true];rfl
   repeat refine qaY ?_
   cases hb:((G.getD k tBool.dflt || G.getD j tBool.dflt) && (M.getD k []).getD j tBool.dflt) with
   | false =>
    rw [hb] at hiff
    repeat refine qaa ?_
    exact⟨j+1,ov1,os1,⟨rfl,rfl,trivial⟩,agr,⟨by omega,by omega,by rw [hsk,qk2 (fun h=>by have:=hiff.2 h;cases this),List.append_nil];exact hw⟩,by omega⟩
   | true =>
    rw [hb] at hiff
    clear hrow
    repeat refine qaa ?_
    refine qa0 (T:=tInt) [(k:Int),(j:Int)] [.int .i64 k,.int .i64 j] rfl rfl rfl rfl rfl (Nat.le_of_ble_eq_true rfl) (Nat.zero_lt_succ _) (Nat.le_of_ble_eq_true rfl) hw ?_
    clear hw
    intro sv w hw
    repeat (first|refine qaa ?_|(refine qaq ?_;clear hw;intro s w hw))
    exact⟨j+1,_,_,⟨rfl,rfl,trivial⟩,agr,⟨by omega,by omega,by rw [hsk,qpD (hiff.1 rfl),←List.append_assoc];exact hw.tail.rowPush⟩,by omega⟩
  ·have hje:j=t.vars.length:=by omega
   subst hje
   repeat refine qaa ?_
   refine⟨k+1,ov1,os1,⟨rfl,rfl,trivial⟩,agr,⟨by omega,.inl (by omega),?_⟩,by omega⟩
   rw [show s2K t t.vars.length (k+1)=s2K t t.vars.length k++s2B t k t.vars.length by unfold s2K;rw [qaN (Nat.zero_le k)],←List.append_assoc]
   exact hw
 rw [hcl] at h1
 obtain⟨L2,hL2,hL2l,hLs⟩:∃ L2,s1K t t.vars.length++s2K t t.vars.length k=L2∧L2.length≤78∧L2=if 2≤κ then sysK t 1++sysK t 2 else sysK t 1:=by
  refine⟨_,rfl,?_,?_⟩
  ·have:=(qgF hn).2.1
   rw [qiX] at this
   have h3:=qdB (g:=fun a=>s2B t a t.vars.length) (lo:=0) hk
   unfold s2K at *
   rw [List.length_append]
   omega
  ·by_cases e:2≤κ
   ·rw [if_pos e,qiW,qiX,show k=t.vars.length by omega]
   ·rw [if_neg e,qiW,show k=0 by omega,hs2z,List.append_nil]
 rw [hL2] at hw hoo
 clear hL2 h1 hk hk2 hs2z h1l
 have hs3z:s3K t t.vars.length 0=[]:=qbI (Nat.le_refl _)
 have hw1:Sat w0 w [RowsAt tInt 3 os (L2++s3K t t.vars.length 0),OS tVal 22 ov os,OS tBool 4 gv G,RowsAt tBool 4 ss M,OS tVal 150 out ss,Box pt 26 [a,b,c,d]]:=by rw [hs3z,List.append_nil];exact hw
 clear hw
 repeat refine qaa ?_
 refine qay [16,20,21,22,23,143,144,145,146,147,148,149,150,151,152,153,154,155,156,157,158,159,160,161,162,163,164,165,166,167,168,169,170,171,172,173,174,175,176,177,178,179,180,181,182,183,184,185,186,187,188,189,190,191,192,193,194,195,196,197,198,199,200,201,202,203,204,205,206,207,208,209,210,211,212,213,214,215,216,217,218,219,220,221,222,223,224,225,226,227,228,229,230,231,232,233,234,235,236,237,238,239,240,241,242,243,244,245,246,247,248] (G:=Nat) (H:=Value) (I:=List Value) (fun k ov _=>[(20,.int .i64 k),(16,ov)]) (fun k ov os w=>k≤t.vars.length∧(3≤κ∨k=0)∧Sat w0 w [RowsAt tInt 3 os (L2++s3K t t.vars.length k),OS tVal 22 ov os,OS tBool 4 gv G,RowsAt tBool 4 ss M,OS tVal 150 out ss,Box pt 26 [a,b,c,d]]) (fun k _ _=>t.vars.length-k) 0 ov os (fun _ _ _=>rfl) ⟨rfl,rfl,trivial⟩ ⟨Nat.zero_le _,.inr rfl,hw1⟩ ?_
 clear hw1 hoo
 rintro σ2 k ov os w ⟨hk,hk2,hw⟩
 have hoo:=hw.rowsLen
 have h3b:(s3K t t.vars.length k).length≤220:=by
  have h:=(qgF hn).2.2
  rw [qeW] at h
  have h3:=qdB (g:=fun a=>s3B t t.vars.length a t.vars.length) (lo:=0) hk
  unfold s3K at *
  omega
 rw [List.length_append] at hoo
 repeat refine qaa ?_
 refine go_if (fun h1 => ?_) (fun h1 => ?_)
 ·rw [hcl] at h1
  have hkn:k<t.vars.length:=by omega
  repeat refine qaa ?_
  have hs3b:s3B t t.vars.length k (k+1)=[]:=qbI (Nat.le_refl _)
  have hw1:Sat w0 w [RowsAt tInt 3 os (L2++s3K t t.vars.length k++s3B t t.vars.length k (k+1)),OS tVal 22 ov os,OS tBool 4 gv G,RowsAt tBool 4 ss M,OS tVal 150 out ss,Box pt 26 [a,b,c,d]]:=by rw [hs3b,List.append_nil];exact hw
  clear hw hoo
  refine qay [16,21,22,23,159,160,161,162,163,164,165,166,167,168,169,170,171,172,173,174,175,176,177,178,179,180,181,182,183,184,185,186,187,188,189,190,191,192,193,194,195,196,197,198,199,200,201,202,203,204,205,206,207,208,209,210,211,212,213,214,215,216,217,218,219,220,221,222,223,224,225,226,227,228,229,230,231,232,233,234,235,236,237,238,239,240,241,242,243,244,245,246,247,248] (G:=Nat) (H:=Value) (I:=List Value) (fun j ov _=>[(21,.int .i64 j),(16,ov)]) (fun j ov os w=>k+1≤j∧j≤t.vars.length∧Sat w0 w [RowsAt tInt 3 os (L2++s3K t t.vars.length k++s3B t t.vars.length k j),OS tVal 22 ov os,OS tBool 4 gv G,RowsAt tBool 4 ss M,OS tVal 150 out ss,Box pt 26 [a,b,c,d]]) (fun j _ _=>t.vars.length-j) (k+1) ov os (fun _ _ _=>rfl) ⟨rfl,rfl,trivial⟩ ⟨Nat.le_refl _,by omega,hw1⟩ ?_
  clear hw1
  rintro σ3 j ov1 os1 w ⟨hj0,hj,hw⟩
  repeat refine qaa ?_
  refine go_if (fun h2 => ?_) (fun h2 => ?_)
  ·have hjn:j<t.vars.length:=by omega
   repeat refine qaa ?_
   have hs3c:s3C t k j (j+1)=[]:=qbI (Nat.le_refl _)
   have hw1:Sat w0 w [RowsAt tInt 3 os1 (L2++s3K t t.vars.length k++s3B t t.vars.length k j++s3C t k j (j+1)),OS tVal 22 ov1 os1,OS tBool 4 gv G,RowsAt tBool 4 ss M,OS tVal 150 out ss,Box pt 26 [a,b,c,d]]:=by rw [hs3c,List.append_nil];exact hw
   clear hw
   refine qay [16,22,23,166,167,168,169,170,171,172,173,174,175,176,177,178,179,180,181,182,183,184,185,186,187,188,189,190,191,192,193,194,195,196,197,198,199,200,201,202,203,204,205,206,207,208,209,210,211,212,213,214,215,216,217,218,219,220,221,222,223,224,225,226,227,228,229,230,231,232,233,234,235,236,237,238,239,240,241,242,243,244,245,246,247,248] (G:=Nat) (H:=Value) (I:=List Value) (fun l ov _=>[(22,.int .i64 l),(16,ov)]) (fun l ov os w=>j+1≤l∧l≤t.vars.length∧Sat w0 w [RowsAt tInt 3 os (L2++s3K t t.vars.length k++s3B t t.vars.length k j++s3C t k j l),OS tVal 22 ov os,OS tBool 4 gv G,RowsAt tBool 4 ss M,OS tVal 150 out ss,Box pt 26 [a,b,c,d]]) (fun l _ _=>t.vars.length-l) (j+1) ov1 os1 (fun _ _ _=>rfl) ⟨rfl,rfl,trivial⟩ ⟨Nat.le_refl _,by omega,hw1⟩ ?_
   clear hw1
   rintro σ4 l ov2 os2 w ⟨hl0,hl,hw⟩
   repeat refine qaa ?_
   refine go_if (fun h3 => ?_) (fun h3 => ?_)
   ·have hln:l<t.vars.length:=by omega
    have hat1:=hV.at_ k hkn
    have hat2:=hV.at_ j hjn
    have hat3:=hV.at_ l hln
    have hat4:=hN.at_ k j hkn hjn
    have hat5:=hN.at_ j l hjn hln
    have hat6:=hN.at_ k l hkn hln
    have hlen3:=qtw hn hkn hj0 hjn hl
    have hol:=hw.rowsLen
    rw [List.length_append,List.length_append,List.length_append] at hol
    have hsk:s3C t k j (l+1)=s3C t k j l++ifP t [(k:Int),(j:Int),(l:Int)]:=by unfold s3C;rw [qaN hl0]
    have hrow1:=hw.tail.tail.tail.row (i:=k) (by omega)
    have hrl1:=hN.row k hkn
    have hrow2:=hw.tail.tail.tail.row (i:=j) (by omega)
    have hrl2:=hN.row j hjn
    have hiff:(((M.getD k []).getD j tBool.dflt && (M.getD j []).getD l tBool.dflt || (M.getD k []).getD j tBool.dflt && (M.getD k []).getD l tBool.dflt || (M.getD k []).getD l tBool.dflt && (M.getD j []).getD l tBool.dflt) && (G.getD k tBool.dflt || G.getD j tBool.dflt || G.getD l tBool.dflt))=true↔sysP t [(k:Int),(j:Int),(l:Int)]:=by
     rw [qoJ,←hat1,←hat2,←hat3,←hat4,←hat5,←hat6]
     simp only [Bool.and_eq_true,Bool.or_eq_true]
     exact⟨fun⟨h1,h2⟩=>⟨or_assoc.1 h2,or_assoc.1 h1⟩,fun⟨h1,h2⟩=>⟨or_assoc.2 h2,or_assoc.2 h1⟩⟩
    repeat refine qaY ?_
    cases hb:(((M.getD k []).getD j tBool.dflt && (M.getD j []).getD l tBool.dflt || (M.getD k []).getD j tBool.dflt && (M.getD k []).getD l tBool.dflt || (M.getD k []).getD l tBool.dflt && (M.getD j []).getD l tBool.dflt) && (G.getD k tBool.dflt || G.getD j tBool.dflt || G.getD l tBool.dflt)) with
    | false =>
     rw [hb] at hiff
     repeat refine qaa ?_
     exact⟨l+1,ov2,os2,⟨rfl,rfl,trivial⟩,agr,⟨by omega,by omega,by rw [hsk,qk2 (fun h=>by have:=hiff.2 h;cases this),List.append_nil];exact hw⟩,by omega⟩
    | true =>
     rw [hb] at hiff
     clear hrow1 hrow2
     repeat refine qaa ?_
     refine qa0 (T:=tInt) [(k:Int),(j:Int),(l:Int)] [.int .i64 k,.int .i64 j,.int .i64 l] rfl rfl rfl rfl rfl (Nat.le_of_ble_eq_true rfl) (Nat.zero_lt_succ _) (Nat.le_of_ble_eq_true rfl) hw ?_
     clear hw
     intro sv w hw
     repeat (first|refine qaa ?_|(refine qaq ?_;clear hw;intro s w hw))
     exact⟨l+1,_,_,⟨rfl,rfl,trivial⟩,agr,⟨by omega,by omega,by rw [hsk,qpD (hiff.1 rfl),←List.append_assoc];exact hw.tail.rowPush⟩,by omega⟩
   ·have hle:l=t.vars.length:=by omega
    subst hle
    repeat refine qaa ?_
    refine⟨j+1,ov2,os2,⟨rfl,rfl,trivial⟩,agr,⟨by omega,by omega,?_⟩,by omega⟩
    rw [show s3B t t.vars.length k (j+1)=s3B t t.vars.length k j++s3C t k j t.vars.length by unfold s3B;rw [qaN hj0],←List.append_assoc]
    exact hw
  ·have hje:j=t.vars.length:=by omega
   subst hje
   repeat refine qaa ?_
   refine⟨k+1,ov1,os1,⟨rfl,rfl,trivial⟩,agr,⟨by omega,.inl (by omega),?_⟩,by omega⟩
   rw [show s3K t t.vars.length (k+1)=s3K t t.vars.length k++s3B t t.vars.length k t.vars.length by unfold s3K;rw [qaN (Nat.zero_le k)],←List.append_assoc]
   exact hw
 rw [hcl] at h1
 have hfin:L2++s3K t t.vars.length k=sysL t κ:=by
  have:κ=1∨κ=2∨κ=3:=by omega
  rcases this with e|e|e
  ·rw [hLs,if_neg (by omega),e,qrG,show k=0 by omega,hs3z,List.append_nil]
  ·rw [hLs,if_pos (by omega),e,qrH,show k=0 by omega,hs3z,List.append_nil]
  ·rw [hLs,if_pos (by omega),e,qng,qeW,show k=t.vars.length by omega]
 have hlf:(sysL t κ).length≤298:=by rw [←hfin,List.length_append];omega
 rw [hfin] at hw
 have hof:os.length=(sysL t κ).length:=hw.rowsLen
 repeat refine qaa ?_
 refine go_if (fun h4 => ?_) (fun h4 => ?_)
 ·exfalso;omega
 ·repeat refine qaa ?_
  exact qav (v:=ov) (v':=.nilIface) rfl rfl rfl ⟨ov,os,rfl,hw.sel⟩
end Go.Proofs.YtkmbenhffledpaaGreat
