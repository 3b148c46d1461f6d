/-
  Contract of landmark's Cuts.
-/
import Derived.Test.YtdadmnlenbdfbaaGreatWLmk4
import Derived.Test.YtdadmnlenbdfbaaGreatMTA
set_option linter.unusedSimpArgs false
set_option linter.unusedVariables false
namespace Go.Proofs.YtdadmnlenbdfbaaGreat
open Go.Sl Go
attribute [local irreducible] vc opsW opsD opV opW PureV ReadV Thn Blk
theorem qif {t:TTask}{s:List Int}{f:Fact}{l:List Fact}{out:List (List Int)}:cutsF t s (f::l) out=if achF t s f∈out then cutsF t s l out else cutsF t s l (out++[achF t s f]):=by rw [cutsF]
theorem qjx {t:TTask}{z:List Int}{f:Fact}(hg:GoodT t):(∀ x∈achF t z f,0≤x∧x<t.ops.length)∧(achF t z f).length≤262144:=by
 constructor
 ·intro x hx
  obtain⟨u,hu,rfl⟩:=List.mem_map.1 (qjy.1 hx)
  have:=(qi6 hg (List.mem_filter.1 hu).1).1
  omega
 ·have h1:=qhC (((unF t).filter (acB t z f)).map fun u=>(u.op:Int))
  rw [List.length_map] at h1
  have h2:=List.length_filter_le (acB t z f) (unF t)
  have h3:=qjA hg
  show (compL _).length≤_
  omega
set_option maxRecDepth 8000 in
set_option maxHeartbeats 8000000 in
theorem qg2 {w0:World}{pr:Addr}{t:TTask}{a gv cv lv sv:Value}{us:List LUV}{z:List Int}(hr:FinR w0 pr t a gv cv lv us) (hg:GoodT t) (hs:RS tInt w0 sv z) (hok:StateOk t.vars z) :
  Calls Tryz.prog 24 #[.pointer (some pr),sv] w0 fun e w'=>(¬RchG t z ⟨-1,-1⟩∧e=.returned (.tuple #[.slice none 0 0,errV 3])∧Sat w0 w' [])∨∃ ov cs,RchG t z ⟨-1,-1⟩∧e=.returned (.tuple #[ov,.nilIface])∧cs.length≤4096∧Sat w0 w' [RdH fun w=>RCut w ov cs (cutsF t z (factsF t z) [])]:=by
 have hcl:(costsT t).length=t.ops.length:=qbY t
 have hfl:(factsF t z).length≤4096:=by
  have h1:=List.length_filter_le (lmB t z) (allF t.vars)
  have h2:=qdH (fun i hi=>(hg.dom i hi).2) t.vars.length (Nat.le_refl _)
  have h3:allK t.vars t.vars.length=allF t.vars:=rfl
  rw [h3] at h2
  have:=hg.vars
  show ((allF t.vars).filter (lmB t z)).length≤_
  omega
 have hw:=Sat.start w0
 refine qaf (args:=[.pointer (some pr),sv]) mixed Tryz.func24 rfl (by kernel_rfl) (Nat.le_of_ble_eq_true rfl) ?_
 have hbx:=hr.box
 have hcr:=hr.costs
 repeat (first|refine qac ?_|(refine qaa ?_;clear hw;intro p w hw)|(refine qad ?_;clear hw;intro w hw)|(refine qab ?_;clear hw;intro s w hw))
 refine qag rfl (qg3 (hr.at hw) hg (hs.at hw) hok) ?_
 rintro _ w' hres
 rcases hres with ⟨hn,rfl,hk'⟩|⟨fv,hRG,rfl,hk'⟩
 ·replace hw:=hw.call0 hk'
  refine⟨_,rfl,?_⟩
  rw [qaj (by decide)]
  repeat (first|refine qac ?_|(refine qaa ?_;clear hw;intro p w hw)|(refine qad ?_;clear hw;intro w hw)|(refine qab ?_;clear hw;intro s w hw))
  exact qaw (v:=.slice none 0 0) (v':=.iface 35 (.int .i64 3)) rfl rfl rfl (.inl ⟨hn,rfl,hw⟩)
 replace hw:=hw.call1 hk'
 clear hk'
 refine⟨_,rfl,?_⟩
 replace hw:=hw.nil (T:=tCut) (e:=103)
 replace hw:=Sat.rd0 (φ:=CutF [] []) (fun w i hi=>absurd hi (Nat.not_lt_zero _)) hw
 replace hw:Sat w0 w' [OS tCut 103 (.slice none 0 0) [],RdH (CutF [] []),OS tFact 73 fv (factsF t z)]:=hw.sel
 repeat (first|refine qac ?_|(refine qaa ?_;clear hw;intro p w hw)|(refine qad ?_;clear hw;intro w hw)|(refine qab ?_;clear hw;intro s w hw))
 refine qbn [8,10,11,13,25,26,27,28,29,30,31,32,33,34,35,36,37,38,39,40,41,42,43,44,45,46,47,48,49,50,51,52,53,54,55,56,57,58,59,60] (G:=Nat) (H:=Value) (I:=List CutV) (M:=List (List Int)) (fun k ov _ _=>[(25,.int .i64 k),(8,ov)]) (fun k ov cs C w=>k≤(factsF t z).length∧cs.length≤k∧cs.length=C.length∧cutsF t z (factsF t z) []=cutsF t z ((factsF t z).drop k) C∧Sat w0 w [OS tCut 103 ov cs,RdH (CutF cs C),OS tFact 73 fv (factsF t z)]) (fun k _ _ _=>(factsF t z).length-k) 0 (.slice none 0 0) [] [] (fun _ _ _ _=>rfl) ⟨rfl,rfl,trivial⟩ ⟨Nat.zero_le _,Nat.le_refl _,rfl,rfl,hw⟩ ?_
 clear hw
 rintro σ k ov cs C w ⟨hk,hck,hcC,hX,hw⟩
 repeat (first|refine qac ?_|(refine qaa ?_;clear hw;intro p w hw)|(refine qad ?_;clear hw;intro w hw)|(refine qab ?_;clear hw;intro s w hw))
 refine go_if (fun h1 => ?_) (fun h1 => ?_)
 ·have hkl:k<(factsF t z).length:=by omega
  obtain⟨f,hf⟩:∃ f,f=(factsF t z).getD k tFact.dflt:=⟨_,rfl⟩
  rw [qaR tFact.dflt hkl,←hf] at hX
  rw [qif] at hX
  obtain⟨K,hK⟩:∃ K,K=achF t z f:=⟨_,rfl⟩
  obtain⟨r1,r2⟩:=qjx (t:=t) (z:=z) (f:=f) hg
  rw [←hK] at hX r1 r2
  repeat (first|refine qac ?_|(refine qaa ?_;clear hw;intro p w hw)|(refine qae ?_;clear hw;intro w hw)|(refine qab ?_;clear hw;intro s w hw))
  obtain⟨p10,rfl⟩:∃ x,x=p:=⟨_,rfl⟩
  rw [←hf] at hw ⊢
  refine qag rfl (qka (f:=f) (hr.at hw) hg (hs.at hw) hok) ?_
  rintro _ w' ⟨kv,rfl,hk'⟩
  replace hw:=hw.call1 hk'
  clear hk'
  refine⟨_,rfl,?_⟩
  rw [←hK] at hw
  have okv:=(rsO (s:=kv) hw).one
  repeat (first|refine qac ?_|(refine qaa ?_;clear hw;intro p w hw)|(refine qae ?_;clear hw;intro w hw)|(refine qab ?_;clear hw;intro s w hw))
  refine qbA (v1:=kv) (v2:=.int .i64 1125899906842624) rfl rfl rfl (by simp only [List.all_cons,List.all_nil,okv];rfl) ?_
  repeat (first|refine qac ?_|(refine qaa ?_;clear hw;intro p w hw)|(refine qab ?_;clear hw;intro s w hw))
  obtain⟨pc,rfl⟩:∃ x,x=p:=⟨_,rfl⟩
  refine qaS (n:=2) (p:=pc) (vs:=[kv,.int .i64 1125899906842624]) rfl rfl hw inferInstance rfl rfl (by simp only [List.all_cons,List.all_nil,okv];rfl) ?_
  clear hw
  intro w hw
  replace hw:Sat w0 w [Box pc 103 [kv,.int .i64 1125899906842624],OS tInt 3 kv K,OS tCut 103 ov cs,RdH (CutF cs C),OS tFact 73 fv (factsF t z)]:=hw.sel
  repeat (first|refine qac ?_|(refine qaa ?_;clear hw;intro p w hw)|(refine qae ?_;clear hw;intro w hw)|(refine qab ?_;clear hw;intro s w hw))
  refine qag rfl (qiy (pc:=pc) (K:=K) ⟨rsO (s:=ov) hw,hcC,hw.rdE 3 rfl⟩ (boxRO (p:=pc) hw) (rsO (s:=kv) hw)) ?_
  rintro _ w' ⟨⟨r,rfl,hrr⟩,hk'⟩
  replace hw:=hw.call0 hk'
  clear hk'
  refine⟨_,rfl,?_⟩
  cases r
  case true =>
   have hm:=hrr.1 rfl
   rw [if_pos hm] at hX
   repeat (first|refine qac ?_|(refine qaa ?_;clear hw;intro p w hw)|(refine qad ?_;clear hw;intro w hw)|(refine qab ?_;clear hw;intro s w hw))
   exact⟨k+1,ov,cs,C,⟨rfl,rfl,trivial⟩,agr,⟨by omega,by omega,hcC,hX,hw.tail.tail⟩,by omega⟩
  have hm:K∉C:=fun h=>by cases hrr.2 h
  rw [if_neg hm] at hX
  repeat (first|refine qac ?_|(refine qaa ?_;clear hw;intro p w hw)|(refine qae ?_;clear hw;intro w hw)|(refine qab ?_;clear hw;intro s w hw))
  refine qat [13,40,41,42,43,44,45,46,47,48,49,50,51,52,53,54,55] (G:=Nat) (H:=Int) (fun i _=>[(40,.int .i64 i)]) (fun i m w=>i≤K.length∧Sat w0 w [Box pc 103 [kv,.int .i64 m],OS tInt 3 kv K,OS tCut 103 ov cs,RdH (CutF cs C),OS tFact 73 fv (factsF t z)]) (fun i _=>K.length-i) 0 1125899906842624 (fun _ _=>rfl) ⟨rfl,trivial⟩ ⟨Nat.zero_le _,hw⟩ ?_
  clear hw
  rintro σ1 i m w ⟨hi,hw⟩
  repeat (first|refine qac ?_|(refine qaa ?_;clear hw;intro p w hw)|(refine qad ?_;clear hw;intro w hw)|(refine qab ?_;clear hw;intro s w hw))
  refine go_if (fun h2 => ?_) (fun h2 => ?_)
  ·have hil:i<K.length:=by omega
   have hki:=r1 _ (qan tInt.dflt hil)
   repeat (first|refine qac ?_|(refine qaa ?_;clear hw;intro p w hw)|(refine qad ?_;clear hw;intro w hw)|(refine qab ?_;clear hw;intro s w hw))
   simp only [List.set_cons_succ,List.set_cons_zero] at hw
   exact⟨i+1,_,⟨rfl,trivial⟩,agr,⟨by omega,hw⟩,by omega⟩
  repeat (first|refine qac ?_|(refine qaa ?_;clear hw;intro p w hw)|(refine qad ?_;clear hw;intro w hw)|(refine qab ?_;clear hw;intro s w hw))
  refine qal tCut (x1:=⟨kv,m⟩) rfl rfl rfl (Nat.le_of_ble_eq_true rfl) (Nat.zero_lt_succ _) hw ?_
  clear hw
  intro so w hw
  refine qaM (s:=ov) (s2:=so) inferInstance rfl rfl (rsO hw) rfl rfl (fun x hx v hv => ?_) (by simp only [List.length_cons,List.length_nil];omega) (by unfold big;simp only [List.length_cons,List.length_nil];omega) hw ?_
  ·rw [List.mem_singleton.1 hx] at hv
   simp only [tCut,List.mem_cons,List.not_mem_nil,or_false] at hv
   rcases hv with rfl|rfl
   ·exact okv
   ·rfl
  clear hw
  intro ov2 w hw
  repeat (first|refine qac ?_|(refine qaa ?_;clear hw;intro p w hw)|(refine qad ?_;clear hw;intro w hw)|(refine qab ?_;clear hw;intro s w hw))
  replace hw:Sat w0 w [OS tInt 3 kv K,RdH (CutF cs C),OS tCut 103 ov2 (cs++[⟨kv,m⟩]),OS tFact 73 fv (factsF t z)]:=hw.sel
  replace hw:=Sat.rd (Δ:=[OS tInt 3 kv K,RdH (CutF cs C)]) (φ:=CutF (cs++[⟨kv,m⟩]) (C++[K])) (fun _ w h=>(h.rdE 1 rfl).snoc hcC (h.rs 0 rfl)) hw
  exact⟨k+1,ov2,_,C++[K],⟨rfl,rfl,trivial⟩,agr,⟨by omega,by simp;omega,by simp [hcC],hX,hw.sel (Δ:=[OS tCut 103 ov2 (cs++[⟨kv,m⟩]),RdH (CutF (cs++[⟨kv,m⟩]) (C++[K])),OS tFact 73 fv (factsF t z)])⟩,by omega⟩
 rw [List.drop_eq_nil_of_le (by omega)] at hX
 repeat (first|refine qac ?_|(refine qaa ?_;clear hw;intro p w hw)|(refine qad ?_;clear hw;intro w hw)|(refine qab ?_;clear hw;intro s w hw))
 replace hw:=Sat.rd (Δ:=[OS tCut 103 ov cs,RdH (CutF cs C)]) (φ:=fun w=>RCut w ov cs (cutsF t z (factsF t z) [])) (fun _ w h=>by rw [hX];exact⟨h.rs 0 rfl,hcC,h.rdE 1 rfl⟩) hw
 exact qaw (v:=ov) (v':=.nilIface) rfl rfl rfl (.inr ⟨ov,cs,hRG,rfl,by omega,hw.only⟩)
end Go.Proofs.YtdadmnlenbdfbaaGreat
