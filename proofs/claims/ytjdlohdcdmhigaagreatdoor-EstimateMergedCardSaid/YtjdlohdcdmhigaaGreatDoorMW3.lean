/-
  Several texts as one: WSort, WSlices, WTCheck2, WTCheck3.
-/
import Derived.Test.YtjdlohdcdmhigaaGreatDoorMW2
import Derived.Test.YtjdlohdcdmhigaaGreatDoorMSlB
import Derived.Shelf.Sort.Plain
import Derived.Shelf.Slices.In.SortNone
import Derived.Shelf.Slices.CompactI
set_option linter.unusedSimpArgs false
set_option linter.unusedVariables false
/-
  The kit's contracts of 'slices.Sort' and 'slices.Compact' over ints, at this program.
-/
namespace Go.Proofs.YtjdlohdcdmhigaaGreatDoor
open Go.Sl Go Go.Shelf
def renS:Ren:=⟨fun k=>bif Nat.beq k 125 then 109 else bif Nat.beq k 128 then 141 else bif Nat.beq k 129 then 142 else bif Nat.beq k 189 then 79 else bif Nat.beq k 215 then 171 else bif Nat.beq k 216 then 138 else bif Nat.beq k 257 then 108 else bif Nat.beq k 294 then 132 else bif Nat.beq k 295 then 133 else bif Nat.beq k 296 then 134 else bif Nat.beq k 297 then 135 else bif Nat.beq k 298 then 136 else bif Nat.beq k 299 then 137 else bif Nat.beq k 300 then 139 else bif Nat.beq k 301 then 140 else bif Nat.beq k 328 then 166 else bif Nat.beq k 329 then 167 else bif Nat.beq k 330 then 168 else bif Nat.beq k 331 then 169 else bif Nat.beq k 332 then 170 else bif Nat.beq k 343 then 197 else 0,fun k=>bif Nat.beq k 0 then 0 else bif Nat.beq k 3 then 3 else bif Nat.beq k 4 then 4 else bif Nat.beq k 5 then 5 else bif Nat.beq k 9 then 9 else bif Nat.beq k 28 then 22 else bif Nat.beq k 46 then 186 else bif Nat.beq k 51 then 227 else bif Nat.beq k 53 then 229 else bif Nat.beq k 131 then 188 else bif Nat.beq k 182 then 219 else bif Nat.beq k 183 then 220 else bif Nat.beq k 218 then 264 else bif Nat.beq k 222 then 268 else bif Nat.beq k 228 then 300 else bif Nat.beq k 229 then 234 else 0,fun k=>k⟩
set_option maxRecDepth 100000 in
theorem laySort:Lays.n189 Tryz.prog renS:={ mixed:=mixed,f125:=Tryz.func109.trans (by kernel_rfl),f128:=Tryz.func141.trans (by kernel_rfl),f129:=Tryz.func142.trans (by kernel_rfl),f189:=Tryz.func79.trans (by kernel_rfl),f215:=Tryz.func171.trans (by kernel_rfl),f216:=Tryz.func138.trans (by kernel_rfl),f257:=Tryz.func108.trans (by kernel_rfl),f294:=Tryz.func132.trans (by kernel_rfl),f295:=Tryz.func133.trans (by kernel_rfl),f296:=Tryz.func134.trans (by kernel_rfl),f297:=Tryz.func135.trans (by kernel_rfl),f298:=Tryz.func136.trans (by kernel_rfl),f299:=Tryz.func137.trans (by kernel_rfl),f300:=Tryz.func139.trans (by kernel_rfl),f301:=Tryz.func140.trans (by kernel_rfl),f328:=Tryz.func166.trans (by kernel_rfl),f329:=Tryz.func167.trans (by kernel_rfl),f330:=Tryz.func168.trans (by kernel_rfl),f331:=Tryz.func169.trans (by kernel_rfl),f332:=Tryz.func170.trans (by kernel_rfl),f343:=Tryz.func197.trans (by kernel_rfl),t0:=by kernel_rfl,a0:=fun w=>by kernel_rfl,z0:=fun w=>by kernel_rfl,v0:=fun w=>by kernel_rfl,t3:=by kernel_rfl,a3:=fun w=>by kernel_rfl,z3:=fun w=>by kernel_rfl,v3:=fun w=>by kernel_rfl,t4:=by kernel_rfl,a4:=fun w=>by kernel_rfl,z4:=fun w=>by kernel_rfl,v4:=fun w=>by kernel_rfl,t5:=by kernel_rfl,a5:=fun w=>by kernel_rfl,z5:=fun w=>by kernel_rfl,v5:=fun w=>by kernel_rfl,t9:=by kernel_rfl,a9:=fun w=>by kernel_rfl,z9:=fun w=>by kernel_rfl,v9:=fun w=>by kernel_rfl,t28:=by kernel_rfl,a28:=fun w=>by kernel_rfl,z28:=fun w=>by kernel_rfl,v28:=fun w=>by kernel_rfl,t46:=by kernel_rfl,a46:=fun w=>by kernel_rfl,z46:=fun w=>by kernel_rfl,v46:=fun w=>by kernel_rfl,t51:=by kernel_rfl,a51:=fun w=>by kernel_rfl,z51:=fun w=>by kernel_rfl,v51:=fun w=>by kernel_rfl,t53:=by kernel_rfl,a53:=fun w=>by kernel_rfl,z53:=fun w=>by kernel_rfl,v53:=fun w=>by kernel_rfl,t131:=by kernel_rfl,a131:=fun w=>by kernel_rfl,z131:=fun w=>by kernel_rfl,v131:=fun w=>by kernel_rfl,t182:=by kernel_rfl,a182:=fun w=>by kernel_rfl,z182:=fun w=>by kernel_rfl,v182:=fun w=>by kernel_rfl,t183:=by kernel_rfl,a183:=fun w=>by kernel_rfl,z183:=fun w=>by kernel_rfl,v183:=fun w=>by kernel_rfl,t218:=by kernel_rfl,a218:=fun w=>by kernel_rfl,z218:=fun w=>by kernel_rfl,v218:=fun w=>by kernel_rfl,t222:=by kernel_rfl,a222:=fun w=>by kernel_rfl,z222:=fun w=>by kernel_rfl,v222:=fun w=>by kernel_rfl,t228:=by kernel_rfl,a228:=fun w=>by kernel_rfl,z228:=fun w=>by kernel_rfl,v228:=fun w=>by kernel_rfl,t229:=by kernel_rfl,a229:=fun w=>by kernel_rfl,z229:=fun w=>by kernel_rfl,v229:=fun w=>by kernel_rfl }
def renC:Ren:=⟨fun k=>bif Nat.beq k 20 then 95 else 0,fun k=>bif Nat.beq k 0 then 0 else bif Nat.beq k 3 then 3 else bif Nat.beq k 4 then 4 else bif Nat.beq k 22 then 22 else 0,fun k=>k⟩
set_option maxRecDepth 100000 in
theorem layCompact:Lays2.n20 Tryz.prog renC:={ mixed:=mixed,f20:=Tryz.func95.trans (by kernel_rfl),t0:=by kernel_rfl,a0:=fun w=>by kernel_rfl,z0:=fun w=>by kernel_rfl,v0:=fun w=>by kernel_rfl,t3:=by kernel_rfl,a3:=fun w=>by kernel_rfl,z3:=fun w=>by kernel_rfl,v3:=fun w=>by kernel_rfl,t4:=by kernel_rfl,a4:=fun w=>by kernel_rfl,z4:=fun w=>by kernel_rfl,v4:=fun w=>by kernel_rfl,t22:=by kernel_rfl,a22:=fun w=>by kernel_rfl,z22:=fun w=>by kernel_rfl,v22:=fun w=>by kernel_rfl,i3:=by kernel_rfl }
def sortL (xs:List Int):List Int:=xs.mergeSort fun x y=>decide (x≤y)
theorem qeF (xs:List Int):(sortL xs).length=xs.length:=List.length_mergeSort _
theorem qgZ {xs:List Int}{x:Int}:x∈sortL xs↔x∈xs:=List.mem_mergeSort
theorem qiS (xs:List Int):(sortL xs).Pairwise (·≤·):=by
 have:=List.pairwise_mergeSort (le:=fun x y:Int=>decide (x≤y)) (fun a b c h k=>by simp at h k ⊢;omega) (fun a b=>by simp;omega) xs
 exact this.imp fun h=>by simpa using h
theorem qeZ {w0 w:World}{Γ:List HP}{s:Value}{xs:List Int}(hw:Sat w0 w (OS tInt 3 s xs::Γ)) (hn:xs.length<4611686018427387904) :
  Calls Tryz.prog 79 #[s] w fun e w'=>e=.returned (.tuple #[])∧Sat w0 w' (OS tInt 3 s (sortL xs)::Γ):=by
 rcases hw.intsAt with ⟨rfl,rfl⟩|⟨b,off,cap,rfl,hc,hb,hH,hput⟩
 ·refine Calls.mono (Any.slices_Sort_int_none laySort none 0 w) ?_
  rintro e w' ⟨rfl,rfl⟩
  exact⟨rfl,(by have e:sortL []=[]:=List.eq_nil_of_length_eq_zero (qeF []);rw [e];exact hw)⟩
 ·refine Calls.mono (Any.slices_Sort_int laySort b off cap xs w hH hb hn) ?_
  rintro e w' ⟨rfl,n,os,rfl⟩
  exact⟨rfl,(hput (sortL xs) (qeF xs) n).grow os⟩
def compL (xs:List Int):List Int:=Lib.compact xs
theorem qmL (xs:List Int):(compL xs).length≤xs.length:=by
 unfold compL Lib.compact Lib.compactUpTo
 rw [List.length_map]
 exact Nat.le_trans (List.length_filter_le _ _) (by simp)
theorem qhl {w0 w:World}{Γ:List HP}{s:Value}{xs:List Int}(hw:Sat w0 w (OS tInt 3 s xs::Γ)) (hn:xs.length≤9223372036854775807) :
  Calls Tryz.prog 95 #[s] w fun e w'=>∃ s',e=.returned s'∧Sat w0 w' (OS tInt 3 s' (compL xs)::Γ):=by
 rcases hw.intsAt with ⟨rfl,rfl⟩|⟨b,off,cap,rfl,hc,hb,hH,hput⟩
 ·refine Calls.mono (Any.slices_Compact_int_empty layCompact none 0 w) ?_
  rintro e w' ⟨rfl,rfl⟩
  exact⟨_,rfl,hw⟩
 ·refine Calls.mono (Any.slices_Compact_int layCompact b off cap xs w hH hn hc) ?_
  rintro e w' ⟨rfl,n,rfl⟩
  have hle:=qmL xs
  have h1:=hput (compL xs++List.replicate (xs.length-(compL xs).length) 0) (by simp;omega) n
  refine⟨_,rfl,?_⟩
  have hlen:(compL xs).length≤(compL xs++List.replicate (xs.length-(compL xs).length) 0).length:=by simp
  have h2:=h1.sub own_here 0 (compL xs).length (Nat.zero_le _) hlen
  have e:cut (compL xs++List.replicate (xs.length-(compL xs).length) 0) 0 (compL xs).length=compL xs:=by simp [cut]
  have e2:ssub (.slice (some ⟨b,off,none⟩) xs.length cap) tInt.sz 0 (compL xs).length=.slice (some ⟨b,off,none⟩) (compL xs).length cap:=by simp [ssub,qbw,tInt]
  rw [e,e2] at h2
  exact h2
end Go.Proofs.YtjdlohdcdmhigaaGreatDoor
/-
  Contracts of 'slices.Index', 'Contains' and 'Clone' over ints.
-/
namespace Go.Proofs.YtjdlohdcdmhigaaGreatDoor
open Go.Sl Go
attribute [local irreducible] vc opsW opsD opV opW PureV ReadV Thn Blk
set_option maxRecDepth 8000 in
theorem qj5 {w0:World}{a:Value}{xs:List Int}{v:Int}(ha:RS tInt w0 a xs) :
  Calls Tryz.prog 145 #[a,.int .i64 v] w0 fun e w'=>(∃ r:Int,e=.returned (.int .i64 r)∧(0≤r↔v∈xs))∧Sat w0 w' []:=by
 have hla:=ha.big
 have hw:=Sat.start w0
 refine qaf (args:=[a,.int .i64 v]) mixed Tryz.func145 rfl (by kernel_rfl) (Nat.le_of_ble_eq_true rfl) ?_
 repeat (first|refine qac ?_|(refine qaa ?_;clear hw;intro p w hw)|(refine qae ?_;clear hw;intro w hw)|(refine qab ?_;clear hw;intro s w hw))
 refine qak [4,5,8,9,10,11,12,13,14,15,16,17,18] (G:=Nat) (fun k=>[(8,.int .i64 k)]) (fun k w=>k≤xs.length∧(∀ i,i<k→xs.getD i tInt.dflt≠v)∧Sat w0 w []) (fun k=>xs.length-k) 0 (fun _=>rfl) ⟨rfl,trivial⟩ ⟨Nat.zero_le _,fun i hi=>absurd hi (Nat.not_lt_zero _),hw⟩ ?_
 clear hw
 rintro σ k w ⟨hk,hpre,hw⟩
 repeat (first|refine qac ?_|(refine qaa ?_;clear hw;intro p w hw)|(refine qae ?_;clear hw;intro w hw)|(refine qab ?_;clear hw;intro s w hw))
 refine go_if (fun h1 => ?_) (fun h1 => ?_)
 ·have hkl:k<xs.length:=by omega
  repeat (first|refine qac ?_|(refine qaa ?_;clear hw;intro p w hw)|(refine qae ?_;clear hw;intro w hw)|(refine qab ?_;clear hw;intro s w hw))
  refine go_if (fun h2 => ?_) (fun h2 => ?_)
  ·repeat (first|refine qac ?_|(refine qaa ?_;clear hw;intro p w hw)|(refine qae ?_;clear hw;intro w hw)|(refine qab ?_;clear hw;intro s w hw))
   refine qai (v:=.int .i64 k) rfl rfl ⟨⟨k,rfl,⟨fun _ => ?_,fun _=>by omega⟩⟩,hw⟩
   rw [h2];exact qal _ hkl
  ·repeat (first|refine qac ?_|(refine qaa ?_;clear hw;intro p w hw)|(refine qae ?_;clear hw;intro w hw)|(refine qab ?_;clear hw;intro s w hw))
   refine⟨k+1,⟨rfl,trivial⟩,agr,⟨by omega,fun i hi => ?_,hw⟩,by omega⟩
   by_cases h:i=k
   ·subst h;exact fun h=>h2 h.symm
   ·exact hpre i (by omega)
 ·repeat (first|refine qac ?_|(refine qaa ?_;clear hw;intro p w hw)|(refine qae ?_;clear hw;intro w hw)|(refine qab ?_;clear hw;intro s w hw))
  refine qai (v:=.int .i64 (-1)) rfl rfl ⟨⟨-1,rfl,⟨fun h=>by omega,fun h => ?_⟩⟩,hw⟩
  obtain⟨i,hi,he⟩:=List.mem_iff_getElem.1 h
  exact absurd (by rw [getD_at hi];exact he) (hpre i (by omega))
set_option maxRecDepth 8000 in
theorem qaI {w0:World}{a:Value}{xs:List Int}{v:Int}(ha:RS tInt w0 a xs) :
  Calls Tryz.prog 115 #[a,.int .i64 v] w0 fun e w'=>e=.returned (.bool (decide (v∈xs)))∧Sat w0 w' []:=by
 have hw:=Sat.start w0
 refine qaf (args:=[a,.int .i64 v]) mixed Tryz.func115 rfl (by kernel_rfl) (Nat.le_of_ble_eq_true rfl) ?_
 repeat (first|refine qac ?_|(refine qaa ?_;clear hw;intro p w hw)|(refine qae ?_;clear hw;intro w hw)|(refine qab ?_;clear hw;intro s w hw))
 refine qah rfl (qj5 ha) ?_
 rintro _ w' ⟨⟨r,rfl,hr⟩,hk'⟩
 replace hw:=hw.call0 hk'
 clear hk'
 refine⟨_,rfl,?_⟩
 repeat (first|refine qac ?_|(refine qaa ?_;clear hw;intro p w hw)|(refine qae ?_;clear hw;intro w hw)|(refine qab ?_;clear hw;intro s w hw))
 refine qai (v:=.bool (decide (0≤r))) rfl rfl ⟨?_,hw⟩
 rw [decide_eq_decide.2 hr]
set_option maxRecDepth 8000 in
theorem qaB {w0:World}{a:Value}{xs:List Int}(ha:RS tInt w0 a xs) (hn:xs.length≤1099511627776) :
  Calls Tryz.prog 51 #[a] w0 fun e w'=>∃ s,e=.returned s∧Sat w0 w' [OS tInt 3 s xs]:=by
 have hw:=Sat.start w0
 obtain⟨ad,cap,hs⟩:=ha.shape
 subst hs
 refine qaf (args:=[.slice ad xs.length cap]) mixed Tryz.func51 rfl (by kernel_rfl) (Nat.le_of_ble_eq_true rfl) ?_
 repeat (first|refine qac ?_|(refine qaa ?_;clear hw;intro p w hw)|(refine qae ?_;clear hw;intro w hw)|(refine qab ?_;clear hw;intro s w hw))
 refine qaw rfl (qcm (a:=ad) (n:=xs.length) (c:=cap) rfl) ?_
 cases ad with
 | none =>
  have h0:xs=[]:=by
   rcases Nat.eq_zero_or_pos xs.length with h|h
   ·exact List.eq_nil_of_length_eq_zero h
   ·obtain⟨p,c2,he,_⟩:=ha.some (by decide) h
    cases he
  subst h0
  repeat (first|refine qac ?_|(refine qaa ?_;clear hw;intro p w hw)|(refine qae ?_;clear hw;intro w hw)|(refine qab ?_;clear hw;intro s w hw))
  exact qai (v:=.slice none 0 0) rfl rfl ⟨_,rfl,hw.nil⟩
 | some p =>
  repeat (first|refine qac ?_|(refine qaa ?_;clear hw;intro p w hw)|(refine qae ?_;clear hw;intro w hw)|(refine qab ?_;clear hw;intro s w hw))
  refine qaJ tInt hw ?_
  clear hw
  intro s1 w hw
  repeat (first|refine qac ?_|(refine qaa ?_;clear hw;intro p w hw)|(refine qae ?_;clear hw;intro w hw)|(refine qab ?_;clear hw;intro s w hw))
  rw [List.nil_append] at hw
  exact qai (v:=s) rfl rfl ⟨_,rfl,hw⟩
end Go.Proofs.YtjdlohdcdmhigaaGreatDoor
/-
  Contracts of 'conditions', 'large' and 'Check'.
-/
namespace Go.Proofs.YtjdlohdcdmhigaaGreatDoor
open Go.Sl
attribute [local irreducible] vc opsW opsD opV opW PureV ReadV Thn Blk
def RConds (w:World) (cs:List Value) (L:List (List Fact)):Prop:=cs.length=L.length∧∀ i,i<L.length→RS tFact w (vget cs i) (L.getD i [])
theorem RConds.snoc {w:World}{cs:List Value}{L:List (List Fact)}{v:Value}{f:List Fact}(h:RConds w cs L) (hv:RS tFact w v f):RConds w (cs++[v]) (L++[f]):=by
 refine⟨by simp [h.1],fun i hi => ?_⟩
 simp only [List.length_append,List.length_cons,List.length_nil] at hi
 by_cases e:i<L.length
 ·have:=h.2 i e
  rw [qaR] at this ⊢
  simp only [List.getD_eq_getElem?_getD] at this ⊢
  rw [List.getElem?_append_left (by rw [h.1];exact e),List.getElem?_append_left e]
  exact this
 ·have e2:i=L.length:=by omega
  subst e2
  rw [qaR]
  simp only [List.getD_eq_getElem?_getD]
  rw [List.getElem?_append_right (by rw [h.1];exact Nat.le_refl _),List.getElem?_append_right (Nat.le_refl _),h.1]
  simpa using hv
theorem RConds.at {w0 w:World}{Γ:List HP}{cs:List Value}{L:List (List Fact)}(h:RConds w0 cs L) (hw:Sat w0 w Γ):RConds w cs L:=⟨h.1,fun i hi=>(h.2 i hi).at hw⟩
def condsJ (t:TTask) (k j:Nat):List (List Fact):=condsK t k++(t.ops.getD k dOp).pre::((t.ops.getD k dOp).effs.take j).map (·.when)
theorem qhS (t:TTask) {k j:Nat}(hj:j<(t.ops.getD k dOp).effs.length):condsJ t k (j+1)=condsJ t k j++[((t.ops.getD k dOp).effs.getD j dEff).when]:=by
 unfold condsJ
 generalize t.ops.getD k dOp=o at *
 rw [qaj dEff hj];simp
theorem qjN (t:TTask) {k:Nat}(hk:k<t.ops.length):condsJ t k (t.ops.getD k dOp).effs.length=condsK t (k+1):=by
 rw [qed t hk]
 unfold condsJ opConds
 generalize t.ops.getD k dOp=o at *
 simp
theorem qjO (t:TTask) {k j:Nat}(hj:j≤(t.ops.getD k dOp).effs.length):(condsJ t k j).length=(condsK t k).length+1+j:=by
 unfold condsJ
 generalize t.ops.getD k dOp=o at *
 simp;omega
set_option maxRecDepth 8000 in
set_option maxHeartbeats 2000000 in
theorem qcf {wb w0:World}{Γ:List HP}{a b c d:Value}{vs:List OpV}{t:TTask}(htb:RTask wb a b c d vs t) (hs:Sat wb w0 Γ) (hn:t.ops.length≤4096) (he:∀ i,i<t.ops.length→(t.ops.getD i dOp).effs.length≤64) :
  Calls Tryz.prog 75 #[.agg #[a,b,c,d]] w0 fun e w'=>∃ s cs,e=.returned s∧RConds wb cs (conds t)∧Sat w0 w' [OS tVal 23 s cs]:=by
 have hdb:=htb.ops
 have hcb:=htb.goal
 obtain⟨ha,hb,hc,hd⟩:=htb.at hs
 have hrs:=hd.rs
 have hdl:=hd.len
 have hw:=Sat.start w0
 refine qaf (args:=[.agg #[a,b,c,d]]) mixed Tryz.func75 rfl (by kernel_rfl) (Nat.le_of_ble_eq_true rfl) ?_
 repeat (first|refine qac ?_|(refine qaa ?_;clear hw;intro p w hw)|(refine qae ?_;clear hw;intro w hw)|(refine qab ?_;clear hw;intro s w hw))
 obtain⟨pt,hpt⟩:∃ pt,pt=p:=⟨p,rfl⟩
 subst hpt
 have hc0:RConds wb [c] (condsK t 0):=by
  rw [qhr]
  refine⟨rfl,fun i hi => ?_⟩
  simp at hi
  subst hi
  rw [qaR]
  simpa using hcb
 refine qaq [3,5,7,14,15,16,17,18,19,20,21,22,23,24,25,26,27,28,29,30,31,32,33,34,35,36] (G:=Nat) (H:=Value × List Value) (fun k x=>[(14,.int .i64 k),(3,x.1)]) (fun k x w=>k≤t.ops.length∧RConds wb x.2 (condsK t k)∧Sat w0 w [OS tVal 23 x.1 x.2,Box pt 26 [a,b,c,d]]) (fun k x=>t.ops.length-k) 0 (s,[c]) (fun _ _=>rfl) ⟨rfl,rfl,trivial⟩ ⟨Nat.zero_le _,hc0,hw⟩ ?_
 clear hw
 rintro σ k ⟨s,cs⟩ w ⟨hk,hcs,hw⟩
 simp only at hcs hw
 have hkl:=qdp t k hk he
 have hcl:=hcs.1
 repeat (first|refine qac ?_|(refine qaa ?_;clear hw;intro p w hw)|(refine qae ?_;clear hw;intro w hw)|(refine qab ?_;clear hw;intro s w hw))
 refine go_if (fun h1 => ?_) (fun h1 => ?_)
 ·have hop:=hd.at_ k (by omega)
  have hone:=hop.one
  have hopb:=hdb.at_ k (by omega)
  have hpreb:=hopb.pre
  have hpre:=hop.pre
  obtain⟨es,hesb⟩:=hopb.effs
  have hes:=hesb.at hs
  have hers:=hes.rs
  have hel:=hes.len
  have hek:=he k (by omega)
  repeat (first|refine qac ?_|(refine qaa ?_;clear hw;intro p w hw)|(refine qae ?_;clear hw;intro w hw)|(refine qab ?_;clear hw;intro s w hw))
  have hc1:RConds wb (cs++[(eget tOp vs k).pre]) (condsJ t k 0):=by
   have:=hcs.snoc hpreb
   simpa [condsJ] using this
  refine qaq [3,7,26,27,28,29,30,31,32,33,34,35] (G:=Nat) (H:=Value × List Value) (fun j x=>[(26,.int .i64 j),(3,x.1)]) (fun j x w=>j≤(t.ops.getD k dOp).effs.length∧RConds wb x.2 (condsJ t k j)∧Sat w0 w [OS tVal 23 x.1 x.2,Box pt 26 [a,b,c,d]]) (fun j x=>(t.ops.getD k dOp).effs.length-j) 0 (s,cs++[(eget tOp vs k).pre]) (fun _ _=>rfl) ⟨rfl,rfl,trivial⟩ ⟨Nat.zero_le _,hc1,hw.tail.tail⟩ ?_
  clear hw hcs hcl hc1
  rintro σ1 j ⟨s2,cs2⟩ w ⟨hj,hcs,hw⟩
  simp only at hcs hw
  have hjl:=qjO t hj
  have hcl:=hcs.1
  repeat (first|refine qac ?_|(refine qaa ?_;clear hw;intro p w hw)|(refine qae ?_;clear hw;intro w hw)|(refine qab ?_;clear hw;intro s w hw))
  refine go_if (fun h2 => ?_) (fun h2 => ?_)
  ·have hej:=hes.at_ j (by omega)
   have hone2:=hej.one
   have hwh:=hej.when
   have hwhb:=(hesb.at_ j (by omega)).when
   repeat (first|refine qac ?_|(refine qaa ?_;clear hw;intro p w hw)|(refine qae ?_;clear hw;intro w hw)|(refine qab ?_;clear hw;intro s w hw))
   have hc3:=hcs.snoc hwhb
   rw [←qhS t (by omega)] at hc3
   exact⟨j+1,(s,cs2++[(eget tEff es j).when]),⟨rfl,rfl,trivial⟩,agr,⟨by omega,hc3,hw.tail.tail⟩,by omega⟩
  ·have hje:j=(t.ops.getD k dOp).effs.length:=by omega
   subst hje
   rw [qjN t (by omega)] at hcs
   repeat (first|refine qac ?_|(refine qaa ?_;clear hw;intro p w hw)|(refine qae ?_;clear hw;intro w hw)|(refine qab ?_;clear hw;intro s w hw))
   exact⟨k+1,(s2,cs2),⟨rfl,rfl,trivial⟩,agr,⟨by omega,hcs,hw⟩,by omega⟩
 ·have hke:k=t.ops.length:=by omega
  subst hke
  repeat (first|refine qac ?_|(refine qaa ?_;clear hw;intro p w hw)|(refine qae ?_;clear hw;intro w hw)|(refine qab ?_;clear hw;intro s w hw))
  exact qai (v:=s) rfl rfl ⟨s,cs,rfl,hcs,hw.only⟩
set_option maxRecDepth 8000 in
theorem qij {w0:World}{a:Value}{f:List Fact}(ha:RS tFact w0 a f) :
  Calls Tryz.prog 106 #[a] w0 fun e w'=>e=.returned (.bool (decide (64<(f.length:Int))))∧Sat w0 w' []:=by
 have hla:=ha.big
 have hw:=Sat.start w0
 refine qaf (args:=[a]) mixed Tryz.func106 rfl (by kernel_rfl) (Nat.le_of_ble_eq_true rfl) ?_
 repeat (first|refine qac ?_|(refine qaa ?_;clear hw;intro p w hw)|(refine qae ?_;clear hw;intro w hw)|(refine qab ?_;clear hw;intro s w hw))
 exact qai (v:=.bool (decide (64<(f.length:Int)))) rfl rfl ⟨rfl,hw⟩
set_option maxRecDepth 8000 in
theorem qgi {w0:World}{a:Value}{cs:List Value}{L:List (List Fact)}(ha:RS tVal w0 a cs) (hL:RConds w0 cs L) :
  Calls Tryz.prog 131 #[a,.func (.func 106) #[] #[]] w0 fun e w'=>(∃ r:Int,e=.returned (.int .i64 r)∧(0≤r↔∃ i,i<L.length∧64<(L.getD i []).length))∧Sat w0 w' []:=by
 have hla:=ha.big
 have hcl:=hL.1
 have hw:=Sat.start w0
 refine qaf (args:=[a,.func (.func 106) #[] #[]]) mixed Tryz.func131 rfl (by kernel_rfl) (Nat.le_of_ble_eq_true rfl) ?_
 repeat (first|refine qac ?_|(refine qaa ?_;clear hw;intro p w hw)|(refine qae ?_;clear hw;intro w hw)|(refine qab ?_;clear hw;intro s w hw))
 refine qak [4,5,8,9,10,11,12,13,14,15,16,17,18] (G:=Nat) (fun k=>[(8,.int .i64 k)]) (fun k w=>k≤L.length∧(∀ i,i<k→(L.getD i []).length≤64)∧Sat w0 w []) (fun k=>L.length-k) 0 (fun _=>rfl) ⟨rfl,trivial⟩ ⟨Nat.zero_le _,fun i hi=>absurd hi (Nat.not_lt_zero _),hw⟩ ?_
 clear hw
 rintro σ k w ⟨hk,hpre,hw⟩
 repeat (first|refine qac ?_|(refine qaa ?_;clear hw;intro p w hw)|(refine qae ?_;clear hw;intro w hw)|(refine qab ?_;clear hw;intro s w hw))
 refine go_if (fun h1 => ?_) (fun h1 => ?_)
 ·repeat (first|refine qac ?_|(refine qaa ?_;clear hw;intro p w hw)|(refine qae ?_;clear hw;intro w hw)|(refine qab ?_;clear hw;intro s w hw))
  refine qbu (cs:=[]) rfl rfl (qij ((hL.2 k (by omega)).at hw)) ?_
  rintro _ w' ⟨rfl,hk'⟩
  replace hw:=hw.call0 hk'
  clear hk'
  refine⟨_,rfl,?_⟩
  repeat (first|refine qac ?_|(refine qaa ?_;clear hw;intro p w hw)|(refine qae ?_;clear hw;intro w hw)|(refine qab ?_;clear hw;intro s w hw))
  refine go_if (fun h2 => ?_) (fun h2 => ?_)
  ·repeat (first|refine qac ?_|(refine qaa ?_;clear hw;intro p w hw)|(refine qae ?_;clear hw;intro w hw)|(refine qab ?_;clear hw;intro s w hw))
   exact qai (v:=.int .i64 k) rfl rfl ⟨⟨k,rfl,⟨fun _=>⟨k,by omega,by omega⟩,fun _=>by omega⟩⟩,hw⟩
  ·repeat (first|refine qac ?_|(refine qaa ?_;clear hw;intro p w hw)|(refine qae ?_;clear hw;intro w hw)|(refine qab ?_;clear hw;intro s w hw))
   refine⟨k+1,⟨rfl,trivial⟩,agr,⟨by omega,fun i hi => ?_,hw⟩,by omega⟩
   by_cases h:i=k
   ·subst h;omega
   ·exact hpre i (by omega)
 ·repeat (first|refine qac ?_|(refine qaa ?_;clear hw;intro p w hw)|(refine qae ?_;clear hw;intro w hw)|(refine qab ?_;clear hw;intro s w hw))
  refine qai (v:=.int .i64 (-1)) rfl rfl ⟨⟨-1,rfl,⟨fun h=>absurd h (by decide),fun⟨i,hi,hb⟩ => ?_⟩⟩,hw⟩
  have:=hpre i (by omega)
  omega
set_option maxRecDepth 8000 in
theorem qgj {w0:World}{a:Value}{cs:List Value}{L:List (List Fact)}(ha:RS tVal w0 a cs) (hL:RConds w0 cs L) :
  Calls Tryz.prog 105 #[a,.func (.func 106) #[] #[]] w0 fun e w'=>(∃ r,e=.returned (.bool r)∧(r=true↔∃ i,i<L.length∧64<(L.getD i []).length))∧Sat w0 w' []:=by
 have hw:=Sat.start w0
 refine qaf (args:=[a,.func (.func 106) #[] #[]]) mixed Tryz.func105 rfl (by kernel_rfl) (Nat.le_of_ble_eq_true rfl) ?_
 repeat (first|refine qac ?_|(refine qaa ?_;clear hw;intro p w hw)|(refine qae ?_;clear hw;intro w hw)|(refine qab ?_;clear hw;intro s w hw))
 refine qah rfl (qgi (ha.at hw) (hL.at hw)) ?_
 rintro _ w' ⟨⟨r,rfl,hr⟩,hk'⟩
 replace hw:=hw.call0 hk'
 clear hk'
 refine⟨_,rfl,?_⟩
 repeat (first|refine qac ?_|(refine qaa ?_;clear hw;intro p w hw)|(refine qae ?_;clear hw;intro w hw)|(refine qab ?_;clear hw;intro s w hw))
 refine qai (v:=.bool (decide (0≤r))) rfl rfl ⟨⟨_,rfl,?_⟩,hw⟩
 rw [decide_eq_true_eq,hr]
set_option maxRecDepth 8000 in
set_option maxHeartbeats 2000000 in
theorem qke {w0:World}{a b c d:Value}{vs:List OpV}{t:TTask}(ht:RTask w0 a b c d vs t) :
  Calls Tryz.prog 74 #[.agg #[a,b,c,d]] w0 fun e w'=>(∃ r,e=.returned (.bool r)∧(r=true↔LargeT t))∧Sat w0 w' []:=by
 have ht':=ht
 obtain⟨ha,hb,hc,hd⟩:=ht
 have hrs:=hd.rs
 have hdl:=hd.len
 have hla:=ha.big
 have hll:=hrs.big
 have hw:=Sat.start w0
 refine qaf (args:=[.agg #[a,b,c,d]]) mixed Tryz.func74 rfl (by kernel_rfl) (Nat.le_of_ble_eq_true rfl) ?_
 repeat (first|refine qac ?_|(refine qaa ?_;clear hw;intro p w hw)|(refine qae ?_;clear hw;intro w hw)|(refine qab ?_;clear hw;intro s w hw))
 refine go_if (fun h1 => ?_) (fun h1 => ?_)
 ·repeat (first|refine qac ?_|(refine qaa ?_;clear hw;intro p w hw)|(refine qae ?_;clear hw;intro w hw)|(refine qab ?_;clear hw;intro s w hw))
  refine qai (v:=.bool true) rfl rfl ⟨⟨true,rfl,iffT ?_⟩,hw.tail⟩
  unfold LargeT
  omega
 ·repeat (first|refine qac ?_|(refine qaa ?_;clear hw;intro p w hw)|(refine qae ?_;clear hw;intro w hw)|(refine qab ?_;clear hw;intro s w hw))
  obtain⟨pt,hpt⟩:∃ pt,pt=p:=⟨p,rfl⟩
  subst hpt
  refine qak [2,4,18,19,20,21,22,23,24,25,26] (G:=Nat) (fun k=>[(18,.int .i64 k)]) (fun k w=>k≤t.ops.length∧(∀ i,i<k→(t.ops.getD i dOp).effs.length≤64)∧Sat w0 w [Box pt 26 [a,b,c,d]]) (fun k=>t.ops.length-k) 0 (fun _=>rfl) ⟨rfl,trivial⟩ ⟨Nat.zero_le _,fun i hi=>absurd hi (Nat.not_lt_zero _),hw⟩ ?_
  clear hw
  rintro σ k w ⟨hk,hef,hw⟩
  repeat (first|refine qac ?_|(refine qaa ?_;clear hw;intro p w hw)|(refine qae ?_;clear hw;intro w hw)|(refine qab ?_;clear hw;intro s w hw))
  refine go_if (fun h2 => ?_) (fun h2 => ?_)
  ·have hop:=hd.at_ k (by omega)
   have hone:=hop.one
   obtain⟨es,hes⟩:=hop.effs
   have hers:=hes.rs
   have hel:=hes.len
   have heb:=hers.big
   repeat (first|refine qac ?_|(refine qaa ?_;clear hw;intro p w hw)|(refine qae ?_;clear hw;intro w hw)|(refine qab ?_;clear hw;intro s w hw))
   refine go_if (fun h3 => ?_) (fun h3 => ?_)
   ·repeat (first|refine qac ?_|(refine qaa ?_;clear hw;intro p w hw)|(refine qae ?_;clear hw;intro w hw)|(refine qab ?_;clear hw;intro s w hw))
    refine qai (v:=.bool true) rfl rfl ⟨⟨true,rfl,iffT (.inr (.inr (.inl ⟨k,by omega,by omega⟩)))⟩,hw.tail.tail⟩
   ·repeat (first|refine qac ?_|(refine qaa ?_;clear hw;intro p w hw)|(refine qae ?_;clear hw;intro w hw)|(refine qab ?_;clear hw;intro s w hw))
    refine⟨k+1,⟨rfl,trivial⟩,agr,⟨by omega,fun i hi => ?_,hw.tail⟩,by omega⟩
    by_cases h:i=k
    ·subst h;omega
    ·exact hef i (by omega)
  ·repeat (first|refine qac ?_|(refine qaa ?_;clear hw;intro p w hw)|(refine qae ?_;clear hw;intro w hw)|(refine qab ?_;clear hw;intro s w hw))
   refine qah rfl (qcf ht' hw (by omega) (fun i hi=>hef i (by omega))) ?_
   rintro _ w' ⟨s,cs,rfl,hcs,hk'⟩
   replace hw:=hw.call1 hk'
   clear hk'
   refine⟨_,rfl,?_⟩
   repeat (first|refine qac ?_|(refine qaa ?_;clear hw;intro p w hw)|(refine qae ?_;clear hw;intro w hw)|(refine qab ?_;clear hw;intro s w hw))
   refine qah rfl (qgj (a:=s) (rsO hw) (hcs.at hw)) ?_
   rintro _ w' ⟨⟨r,rfl,hr⟩,hk'⟩
   replace hw:=hw.call0 hk'
   clear hk'
   refine⟨_,rfl,?_⟩
   repeat (first|refine qac ?_|(refine qaa ?_;clear hw;intro p w hw)|(refine qae ?_;clear hw;intro w hw)|(refine qab ?_;clear hw;intro s w hw))
   refine qai (v:=.bool r) rfl rfl ⟨⟨r,rfl,hr.trans ⟨fun h=>.inr (.inr (.inr h)),fun h => ?_⟩⟩,hw.tail.tail⟩
   rcases h with h|h|⟨i,hi,h⟩|h
   ·omega
   ·omega
   ·have:=hef i (by omega);omega
   ·exact h
end Go.Proofs.YtjdlohdcdmhigaaGreatDoor
/-
  Contract of 'task.Check'.
-/
namespace Go.Proofs.YtjdlohdcdmhigaaGreatDoor
open Go.Sl
attribute [local irreducible] vc opsW opsD opV opW PureV ReadV Thn Blk
theorem qhc {t:TTask}(h:LargeT t):checkT t=5:=by simp [checkT,h]
theorem qjV {t:TTask}(h1:¬LargeT t) (h2:¬DomT t):checkT t=1:=by simp [checkT,h1,h2]
theorem qhZ {t:TTask}(h1:¬LargeT t) (h2:DomT t) (h3:¬CostT t):checkT t=1:=by simp [checkT,h1,h2,h3]
theorem qh0 {t:TTask}(h1:¬LargeT t) (h2:DomT t) (h3:CostT t) (h4:¬StateOk t.vars t.init):checkT t=2:=by simp [checkT,h1,h2,h3,h4]
theorem qh1 {t:TTask}(h1:¬LargeT t) (h2:DomT t) (h3:CostT t) (h4:StateOk t.vars t.init) (h5:¬CondT t):checkT t=2:=by simp [checkT,h1,h2,h3,h4,h5]
theorem qjW {t:TTask}(h1:¬LargeT t) (h2:DomT t) (h3:CostT t) (h4:StateOk t.vars t.init) (h5:CondT t) (h6:¬EffT t):checkT t=2:=by simp [checkT,h1,h2,h3,h4,h5,h6]
theorem qh2 {t:TTask}(h1:¬LargeT t) (h2:DomT t) (h3:CostT t) (h4:StateOk t.vars t.init) (h5:CondT t) (h6:EffT t) (h7:¬NamesT t):checkT t=8:=by simp [checkT,h1,h2,h3,h4,h5,h6,h7]
theorem qlA {t:TTask}(h1:¬LargeT t) (h2:DomT t) (h3:CostT t) (h4:StateOk t.vars t.init) (h5:CondT t) (h6:EffT t) (h7:NamesT t):checkT t=0:=by simp [checkT,h1,h2,h3,h4,h5,h6,h7]
set_option maxRecDepth 8000 in
set_option maxHeartbeats 4000000 in
theorem qbK {w0:World}{a b c d:Value}{vs:List OpV}{t:TTask}(ht:RTask w0 a b c d vs t) :
  Calls Tryz.prog 46 #[.agg #[a,b,c,d]] w0 fun e w'=>e=.returned (errV (checkT t))∧Sat w0 w' []:=by
 have ht':=ht
 obtain⟨ha,hb,hc,hd⟩:=ht
 have hrs:=hd.rs
 have hdl:=hd.len
 have hla:=ha.big
 have hll:=hrs.big
 have hw:=Sat.start w0
 refine qaf (args:=[.agg #[a,b,c,d]]) mixed Tryz.func46 rfl (by kernel_rfl) (Nat.le_of_ble_eq_true rfl) ?_
 repeat (first|refine qac ?_|(refine qaa ?_;clear hw;intro p w hw)|(refine qae ?_;clear hw;intro w hw)|(refine qab ?_;clear hw;intro s w hw))
 obtain⟨pt,hpt⟩:∃ pt,pt=p:=⟨p,rfl⟩
 subst hpt
 refine qah rfl (qke (ht'.at hw)) ?_
 rintro _ w' ⟨⟨r,rfl,hr⟩,hk'⟩
 replace hw:=hw.call0 hk'
 clear hk'
 refine⟨_,rfl,?_⟩
 cases r with
 | true =>
  repeat (first|refine qac ?_|(refine qaa ?_;clear hw;intro p w hw)|(refine qae ?_;clear hw;intro w hw)|(refine qab ?_;clear hw;intro s w hw))
  exact qai (v:=.iface 63 (.int .i64 5)) rfl rfl ⟨by rw [qhc (hr.1 rfl)];rfl,hw.tail⟩
 | false =>
  have h1:¬LargeT t:=fun h=>by have:=hr.2 h;cases this
  have h1a:t.ops.length≤4096:=Nat.le_of_not_lt fun h=>h1 (.inr (.inl h))
  have h1b:∀ i,i<t.ops.length→(t.ops.getD i dOp).effs.length≤64:=fun i hi=>Nat.le_of_not_lt fun h=>h1 (.inr (.inr (.inl ⟨i,hi,h⟩)))
  repeat (first|refine qac ?_|(refine qaa ?_;clear hw;intro p w hw)|(refine qae ?_;clear hw;intro w hw)|(refine qab ?_;clear hw;intro s w hw))
  refine qak [2,4,21,22,23,24,25,26,27,28,29,30,31,32] (G:=Nat) (fun k=>[(21,.int .i64 k)]) (fun k w=>k≤t.vars.length∧(∀ i,i<k→1≤t.vars.getD i tInt.dflt∧t.vars.getD i tInt.dflt≤64)∧Sat w0 w [Box pt 26 [a,b,c,d]]) (fun k=>t.vars.length-k) 0 (fun _=>rfl) ⟨rfl,trivial⟩ ⟨Nat.zero_le _,fun i hi=>absurd hi (Nat.not_lt_zero _),hw⟩ ?_
  clear hw
  rintro σ k w ⟨hk,hdm,hw⟩
  repeat (first|refine qac ?_|(refine qaa ?_;clear hw;intro p w hw)|(refine qae ?_;clear hw;intro w hw)|(refine qab ?_;clear hw;intro s w hw))
  refine go_if (fun h2 => ?_) (fun h2 => ?_)
  ·repeat (first|refine qac ?_|(refine qaa ?_;clear hw;intro p w hw)|(refine qae ?_;clear hw;intro w hw)|(refine qab ?_;clear hw;intro s w hw))
   refine go_if (fun h3 => ?_) (fun h3 => ?_)
   ·repeat (first|refine qac ?_|(refine qaa ?_;clear hw;intro p w hw)|(refine qae ?_;clear hw;intro w hw)|(refine qab ?_;clear hw;intro s w hw))
    have hno:¬DomT t:=fun h=>by have:=h k (by omega);omega
    exact qai (v:=.iface 63 (.int .i64 1)) rfl rfl ⟨by rw [qjV h1 hno];rfl,hw.tail⟩
   ·repeat (first|refine qac ?_|(refine qaa ?_;clear hw;intro p w hw)|(refine qae ?_;clear hw;intro w hw)|(refine qab ?_;clear hw;intro s w hw))
    refine⟨k+1,⟨rfl,trivial⟩,agr,⟨by omega,fun i hi => ?_,hw⟩,by omega⟩
    by_cases h:i=k
    ·subst h;omega
    ·exact hdm i (by omega)
  ·have hD:DomT t:=fun i hi=>hdm i (by omega)
   clear hdm h2 hk
   repeat (first|refine qac ?_|(refine qaa ?_;clear hw;intro p w hw)|(refine qae ?_;clear hw;intro w hw)|(refine qab ?_;clear hw;intro s w hw))
   refine qak [2,6,36,37,38,39,40,41,42,43,44,45,46,47,48,49] (G:=Nat) (fun k=>[(36,.int .i64 k)]) (fun k w=>k≤t.ops.length∧(∀ i,i<k→0≤(t.ops.getD i dOp).cost∧(t.ops.getD i dOp).cost≤1048576)∧Sat w0 w [Box pt 26 [a,b,c,d]]) (fun k=>t.ops.length-k) 0 (fun _=>rfl) ⟨rfl,trivial⟩ ⟨Nat.zero_le _,fun i hi=>absurd hi (Nat.not_lt_zero _),hw⟩ ?_
   clear hw
   rintro σ1 k w ⟨hk,hco,hw⟩
   repeat (first|refine qac ?_|(refine qaa ?_;clear hw;intro p w hw)|(refine qae ?_;clear hw;intro w hw)|(refine qab ?_;clear hw;intro s w hw))
   refine go_if (fun h2 => ?_) (fun h2 => ?_)
   ·have hop:=hd.at_ k (by omega)
    have hone:=hop.one
    have hcost:=hop.cost
    repeat (first|refine qac ?_|(refine qaa ?_;clear hw;intro p w hw)|(refine qae ?_;clear hw;intro w hw)|(refine qab ?_;clear hw;intro s w hw))
    refine go_if (fun h3 => ?_) (fun h3 => ?_)
    ·repeat (first|refine qac ?_|(refine qaa ?_;clear hw;intro p w hw)|(refine qae ?_;clear hw;intro w hw)|(refine qab ?_;clear hw;intro s w hw))
     have hno:¬CostT t:=fun h=>by have:=h k (by omega);omega
     exact qai (v:=.iface 63 (.int .i64 1)) rfl rfl ⟨by rw [qhZ h1 hD hno];rfl,hw.tail.tail⟩
    ·repeat (first|refine qac ?_|(refine qaa ?_;clear hw;intro p w hw)|(refine qae ?_;clear hw;intro w hw)|(refine qab ?_;clear hw;intro s w hw))
     refine⟨k+1,⟨rfl,trivial⟩,agr,⟨by omega,fun i hi => ?_,hw.tail⟩,by omega⟩
     by_cases h:i=k
     ·subst h;omega
     ·exact hco i (by omega)
   ·have hC:CostT t:=fun i hi=>hco i (by omega)
    clear hco h2 hk
    repeat (first|refine qac ?_|(refine qaa ?_;clear hw;intro p w hw)|(refine qae ?_;clear hw;intro w hw)|(refine qab ?_;clear hw;intro s w hw))
    refine qah rfl (qbx (a:=a) (b:=b) (ha.at hw) (hb.at hw)) ?_
    rintro _ w' ⟨⟨r,rfl,hr2⟩,hk'⟩
    replace hw:=hw.call0 hk'
    clear hk'
    refine⟨_,rfl,?_⟩
    cases r with
    | false =>
     repeat (first|refine qac ?_|(refine qaa ?_;clear hw;intro p w hw)|(refine qae ?_;clear hw;intro w hw)|(refine qab ?_;clear hw;intro s w hw))
     have hno:¬StateOk t.vars t.init:=fun h=>by have:=hr2.2 h;cases this
     exact qai (v:=.iface 63 (.int .i64 2)) rfl rfl ⟨by rw [qh0 h1 hD hC hno];rfl,hw.tail⟩
    | true =>
     have hS:=hr2.1 rfl
     repeat (first|refine qac ?_|(refine qaa ?_;clear hw;intro p w hw)|(refine qae ?_;clear hw;intro w hw)|(refine qab ?_;clear hw;intro s w hw))
     refine qah rfl (qcf ht' hw h1a h1b) ?_
     rintro _ w' ⟨s,cs,rfl,hcs,hk'⟩
     replace hw:=hw.call1 hk'
     clear hk'
     have hcl:=hcs.1
     have hcb:=qdp t t.ops.length (Nat.le_refl _) h1b
     have hcd:(conds t).length=(condsK t t.ops.length).length:=rfl
     refine⟨_,rfl,?_⟩
     repeat (first|refine qac ?_|(refine qaa ?_;clear hw;intro p w hw)|(refine qae ?_;clear hw;intro w hw)|(refine qab ?_;clear hw;intro s w hw))
     refine qak [2,8,60,61,62,63,64,65,66,67,68,69,70] (G:=Nat) (fun k=>[(60,.int .i64 k)]) (fun k w=>k≤(conds t).length∧(∀ i,i<k→FactsOk t.vars ((conds t).getD i []))∧Sat w0 w [OS tVal 23 s cs,Box pt 26 [a,b,c,d]]) (fun k=>(conds t).length-k) 0 (fun _=>rfl) ⟨rfl,trivial⟩ ⟨Nat.zero_le _,fun i hi=>absurd hi (Nat.not_lt_zero _),hw⟩ ?_
     clear hw
     rintro σ2 k w ⟨hk,hcn,hw⟩
     repeat (first|refine qac ?_|(refine qaa ?_;clear hw;intro p w hw)|(refine qae ?_;clear hw;intro w hw)|(refine qab ?_;clear hw;intro s w hw))
     refine go_if (fun h2 => ?_) (fun h2 => ?_)
     ·repeat (first|refine qac ?_|(refine qaa ?_;clear hw;intro p w hw)|(refine qae ?_;clear hw;intro w hw)|(refine qab ?_;clear hw;intro s w hw))
      refine qah rfl (qeT (a:=a) (b:=vget cs k) (ha.at hw) ((hcs.2 k (by omega)).at hw)) ?_
      rintro _ w' ⟨⟨r,rfl,hr3⟩,hk'⟩
      replace hw:=hw.call0 hk'
      clear hk'
      refine⟨_,rfl,?_⟩
      cases r with
      | false =>
       repeat (first|refine qac ?_|(refine qaa ?_;clear hw;intro p w hw)|(refine qae ?_;clear hw;intro w hw)|(refine qab ?_;clear hw;intro s w hw))
       have hno:¬CondT t:=fun h=>by have:=hr3.2 (h k (by omega));cases this
       exact qai (v:=.iface 63 (.int .i64 2)) rfl rfl ⟨by rw [qh1 h1 hD hC hS hno];rfl,hw.tail.tail⟩
      | true =>
       repeat (first|refine qac ?_|(refine qaa ?_;clear hw;intro p w hw)|(refine qae ?_;clear hw;intro w hw)|(refine qab ?_;clear hw;intro s w hw))
       refine⟨k+1,⟨rfl,trivial⟩,agr,⟨by omega,fun i hi => ?_,hw⟩,by omega⟩
       by_cases h:i=k
       ·subst h;exact hr3.1 rfl
       ·exact hcn i (by omega)
     ·have hK:CondT t:=fun i hi=>hcn i (by omega)
      replace hw:=hw.tail
      clear hcn h2 hk hcl hcs
      repeat (first|refine qac ?_|(refine qaa ?_;clear hw;intro p w hw)|(refine qae ?_;clear hw;intro w hw)|(refine qab ?_;clear hw;intro s w hw))
      refine qak [2,10,12,74,75,76,77,78,79,80,81,82,83,84,85,86,87,88,89,90,91,92,93,94,95,96,97] (G:=Nat) (fun k=>[(74,.int .i64 k)]) (fun k w=>k≤t.ops.length∧(∀ i,i<k→∀ j,j<(t.ops.getD i dOp).effs.length→FactsOk t.vars [⟨((t.ops.getD i dOp).effs.getD j dEff).var,((t.ops.getD i dOp).effs.getD j dEff).val⟩])∧Sat w0 w [Box pt 26 [a,b,c,d]]) (fun k=>t.ops.length-k) 0 (fun _=>rfl) ⟨rfl,trivial⟩ ⟨Nat.zero_le _,fun i hi=>absurd hi (Nat.not_lt_zero _),hw⟩ ?_
      clear hw
      rintro σ3 k w ⟨hk,hef,hw⟩
      repeat (first|refine qac ?_|(refine qaa ?_;clear hw;intro p w hw)|(refine qae ?_;clear hw;intro w hw)|(refine qab ?_;clear hw;intro s w hw))
      refine go_if (fun h2 => ?_) (fun h2 => ?_)
      ·have hop:=hd.at_ k (by omega)
       have hone:=hop.one
       obtain⟨es,hes⟩:=hop.effs
       have hers:=hes.rs
       have hel:=hes.len
       have heb:=hers.big
       repeat (first|refine qac ?_|(refine qaa ?_;clear hw;intro p w hw)|(refine qae ?_;clear hw;intro w hw)|(refine qab ?_;clear hw;intro s w hw))
       refine qak [2,12,81,82,83,84,85,86,87,88,89,90,91,92,93,94,95,96] (G:=Nat) (fun j=>[(81,.int .i64 j)]) (fun j w=>j≤(t.ops.getD k dOp).effs.length∧(∀ i,i<j→FactsOk t.vars [⟨((t.ops.getD k dOp).effs.getD i dEff).var,((t.ops.getD k dOp).effs.getD i dEff).val⟩])∧Sat w0 w [Box pt 26 [a,b,c,d]]) (fun j=>(t.ops.getD k dOp).effs.length-j) 0 (fun _=>rfl) ⟨rfl,trivial⟩ ⟨Nat.zero_le _,fun i hi=>absurd hi (Nat.not_lt_zero _),hw.tail⟩ ?_
       clear hw
       rintro σ4 j w ⟨hj,hjf,hw⟩
       repeat (first|refine qac ?_|(refine qaa ?_;clear hw;intro p w hw)|(refine qae ?_;clear hw;intro w hw)|(refine qab ?_;clear hw;intro s w hw))
       refine go_if (fun h3 => ?_) (fun h3 => ?_)
       ·have hej:=hes.at_ j (by omega)
        have hone2:=hej.one
        repeat (first|refine qac ?_|(refine qaa ?_;clear hw;intro p w hw)|(refine qae ?_;clear hw;intro w hw)|(refine qab ?_;clear hw;intro s w hw))
        refine qam tFact (x1:=⟨(eget tEff es j).var,(eget tEff es j).val⟩) rfl rfl rfl (Nat.le_of_ble_eq_true rfl) (Nat.zero_lt_succ _) hw ?_
        clear hw
        intro s w hw
        repeat (first|refine qac ?_|(refine qaa ?_;clear hw;intro p w hw)|(refine qae ?_;clear hw;intro w hw)|(refine qab ?_;clear hw;intro s w hw))
        refine qah rfl (qeT (a:=a) (b:=s) (ha.at hw) (rsO hw)) ?_
        rintro _ w' ⟨⟨r,rfl,hr3⟩,hk'⟩
        replace hw:=hw.call0 hk'
        clear hk'
        rw [hej.var,hej.val] at hr3
        refine⟨_,rfl,?_⟩
        cases r with
        | false =>
         repeat (first|refine qac ?_|(refine qaa ?_;clear hw;intro p w hw)|(refine qae ?_;clear hw;intro w hw)|(refine qab ?_;clear hw;intro s w hw))
         have hno:¬EffT t:=fun h=>by have:=hr3.2 (h k (by omega) j (by omega));cases this
         exact qai (v:=.iface 63 (.int .i64 2)) rfl rfl ⟨by rw [qjW h1 hD hC hS hK hno];rfl,hw.tail.tail.tail⟩
        | true =>
         repeat (first|refine qac ?_|(refine qaa ?_;clear hw;intro p w hw)|(refine qae ?_;clear hw;intro w hw)|(refine qab ?_;clear hw;intro s w hw))
         refine⟨j+1,⟨rfl,trivial⟩,agr,⟨by omega,fun i hi => ?_,hw.tail.tail⟩,by omega⟩
         by_cases h:i=j
         ·subst h;exact hr3.1 rfl
         ·exact hjf i (by omega)
       ·repeat (first|refine qac ?_|(refine qaa ?_;clear hw;intro p w hw)|(refine qae ?_;clear hw;intro w hw)|(refine qab ?_;clear hw;intro s w hw))
        refine⟨k+1,⟨rfl,trivial⟩,agr,⟨by omega,fun i hi => ?_,hw⟩,by omega⟩
        by_cases h:i=k
        ·subst h;exact fun i' hi'=>hjf i' (by omega)
        ·exact hef i (by omega)
      ·have hE:EffT t:=fun i hi=>hef i (by omega)
       clear hef h2 hk
       repeat (first|refine qac ?_|(refine qaa ?_;clear hw;intro p w hw)|(refine qae ?_;clear hw;intro w hw)|(refine qab ?_;clear hw;intro s w hw))
       refine qak [2,14,101,102,103,104,105,106,107,108,109,110] (G:=Nat) (fun k=>[(101,.int .i64 k)]) (fun k w=>k≤t.ops.length∧(∀ i,i<k→NameOk (t.ops.getD i dOp).name)∧Sat w0 w [Box pt 26 [a,b,c,d]]) (fun k=>t.ops.length-k) 0 (fun _=>rfl) ⟨rfl,trivial⟩ ⟨Nat.zero_le _,fun i hi=>absurd hi (Nat.not_lt_zero _),hw⟩ ?_
       clear hw
       rintro σ4 k w ⟨hk,hnm,hw⟩
       repeat (first|refine qac ?_|(refine qaa ?_;clear hw;intro p w hw)|(refine qae ?_;clear hw;intro w hw)|(refine qab ?_;clear hw;intro s w hw))
       refine go_if (fun h2 => ?_) (fun h2 => ?_)
       ·have hop:=hd.at_ k (by omega)
        have hone:=hop.one
        repeat (first|refine qac ?_|(refine qaa ?_;clear hw;intro p w hw)|(refine qae ?_;clear hw;intro w hw)|(refine qab ?_;clear hw;intro s w hw))
        refine qah rfl (qj3 (b:=(eget tOp vs k).name) (by rw [hop.name];exact hop.size)) ?_
        rintro _ w' ⟨⟨r,rfl,hr3⟩,hk'⟩
        replace hw:=hw.call0 hk'
        clear hk'
        rw [hop.name] at hr3
        refine⟨_,rfl,?_⟩
        cases r with
        | false =>
         repeat (first|refine qac ?_|(refine qaa ?_;clear hw;intro p w hw)|(refine qae ?_;clear hw;intro w hw)|(refine qab ?_;clear hw;intro s w hw))
         have hno:¬NamesT t:=fun h=>by have:=hr3.2 (h k (by omega));cases this
         exact qai (v:=.iface 63 (.int .i64 8)) rfl rfl ⟨by rw [qh2 h1 hD hC hS hK hE hno];rfl,hw.tail.tail⟩
        | true =>
         repeat (first|refine qac ?_|(refine qaa ?_;clear hw;intro p w hw)|(refine qae ?_;clear hw;intro w hw)|(refine qab ?_;clear hw;intro s w hw))
         refine⟨k+1,⟨rfl,trivial⟩,agr,⟨by omega,fun i hi => ?_,hw.tail⟩,by omega⟩
         by_cases h:i=k
         ·subst h;exact hr3.1 rfl
         ·exact hnm i (by omega)
       ·repeat (first|refine qac ?_|(refine qaa ?_;clear hw;intro p w hw)|(refine qae ?_;clear hw;intro w hw)|(refine qab ?_;clear hw;intro s w hw))
        exact qai (v:=.nilIface) rfl rfl ⟨by rw [qlA h1 hD hC hS hK hE fun i hi=>hnm i (by omega)];rfl,hw.tail⟩
end Go.Proofs.YtjdlohdcdmhigaaGreatDoor
