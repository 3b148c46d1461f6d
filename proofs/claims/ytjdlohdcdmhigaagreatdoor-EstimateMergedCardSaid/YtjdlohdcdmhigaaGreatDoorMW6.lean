/-
  Several texts as one: WPut, WProj, WProj2, WTgt.
-/
import Derived.Test.YtjdlohdcdmhigaaGreatDoorMW5
import Derived.Test.YtjdlohdcdmhigaaGreatDoorMTA
import Derived.Test.YtjdlohdcdmhigaaGreatDoorMW3
set_option linter.unusedSimpArgs false
set_option linter.unusedVariables false
/-
  Contract of 'project.put': a range over 'slices.Backward'.
-/
namespace Go.Proofs.YtjdlohdcdmhigaaGreatDoor
open Go.Sl Go
attribute [local irreducible] vc opsW opsD opV opW PureV ReadV Thn Blk
def sndB {Q:Int × Int→Prop}(x:{ p:Int × Int // Q p }):Int:=x.1.2
theorem qmd (L:List Int):(revP L L.length).map (·.2)=L.reverse:=by
 apply List.ext_getElem (by simp [revP])
 intro i h1 h2
 have h3:i<L.length:=by simpa using h2
 simp only [revP,List.map_map,List.getElem_map,List.getElem_range,Function.comp_apply,List.getElem_reverse]
 rw [getD_at (by omega)]
theorem qgc {w0:World}{a:Value} :
  Calls Tryz.prog 144 #[a] w0 fun e w'=>∃ pb,e=.returned (.func (.func 174) #[] #[.pointer (some pb)])∧Sat w0 w' [Box pb 22 a.cells.toList]:=by
 have hw:=Sat.start w0
 refine qaf (args:=[a]) mixed Tryz.func144 rfl (by kernel_rfl) (Nat.le_of_ble_eq_true rfl) ?_
 repeat (first|refine qac ?_|(refine qaa ?_;clear hw;intro p w hw)|(refine qae ?_;clear hw;intro w hw)|(refine qab ?_;clear hw;intro s w hw))
 exact qai (v:=.func (.func 174) #[] #[.pointer (some p)]) rfl rfl ⟨p,rfl,hw⟩
set_option maxRecDepth 8000 in
set_option maxHeartbeats 2000000 in
theorem qgd {w0 w:World}{Γ:List HP}{a b c d va s:Value}{vs:List OpV}{t:TTask}{L st:List Int}{n:Int}(ht:RTask w0 a b c d vs t) (hL:RS tInt w0 va L) (hw:Sat w0 w (OS tInt 3 s st::Γ))
  (hp:∀ x∈t.vars,1≤x) (hv:∀ v∈L,0≤v∧v<t.vars.length) (hst:st.length=t.vars.length) (hn:0≤n) (hn2:n≤1099511627776) :
  Calls Tryz.prog 114 #[.agg #[a,b,c,d],va,s,.int .i64 n] w fun e w'=>e=.returned (.tuple #[])∧Sat w0 w' (OS tInt 3 s (putS t.vars L st n)::Γ):=by
 obtain⟨ha,hb,hc,hd⟩:=ht
 have hla:=ha.big
 have hlL:=hL.big
 have hsc:s.cells.toList=[s]:=(hw.rs 0 rfl).cells1
 have hvc:va.cells.toList=[va]:=hL.cells1
 refine (callsIn_wide (n:=3)).1 (callsIn_of_wp_marks (F:=Fence.wide) (n:=3) Tryz.func114 rfl trivial ?_)
 refine qch (ro:=none) (n:=31) mixed (by kernel_rfl) (by simp only [Array.size_append,Array.size_replicate];rfl) rfl ?_
 rw [show (#[.agg #[a,b,c,d],va,s,.int .i64 n]:Array Value)=[.agg #[a,b,c,d],va,s,.int .i64 n].toArray from rfl,qkf]
 refine qaF ?_
 refine qdI ?_
 clear hw
 intro pt w hw
 refine qdI ?_
 clear hw
 intro ps w hw
 refine qdI ?_
 clear hw
 intro pn w hw
 refine qcI ?_
 refine qbi ?_
 intro a1 hs1 hd1 hf1
 refine qch (ro:=none) (n:=31) mixed (by kernel_rfl) hs1 hd1 ?_
 rw [hf1]
 repeat (first|refine qac ?_|(refine qaa ?_;clear hw;intro p w hw)|(refine qae ?_;clear hw;intro w hw)|(refine qab ?_;clear hw;intro s w hw))
 refine qah rfl (qgc (a:=va)) ?_
 rintro _ w' ⟨pb,rfl,hk'⟩
 replace hw:=hw.call1 hk'
 clear hk'
 rw [hvc,hsc] at hw
 refine⟨_,rfl,?_⟩
 repeat (first|refine qac ?_|(refine qaa ?_;clear hw;intro p w hw)|(refine qae ?_;clear hw;intro w hw)|(refine qab ?_;clear hw;intro s w hw))
 intro a2 hs2 hd2 hf2
 clear hf1 hd1 hs1
 refine wpIn_block ?_
 have hdx:a2.defers=[]:=hd2
 obtain⟨W0,hW0⟩:∃ W0,W0=w':=⟨_,rfl⟩
 subst hW0
 have hB:w0.heap.size≤W0.heap.size:=hw.below.size
 have hcb:W0.cell? pb=some va:=qbE (i:=0) hw rfl rfl
 have e9:∀ x:{ p:Int × Int // 0≤p.2∧p.2<t.vars.length },fr (({ tmps:=(#[12,13].zip (encB x)).foldl (fun t (p,v)=>t.setIfInBounds p v) a2.tmps,defers:=[] }:Act).put (some 9) (.int .i64 x.1.2))=upd (upd (upd (fr a2) 12 (.int .i64 x.1.1)) 13 (.int .i64 x.1.2)) 9 (.int .i64 x.1.2):=fun x=>by
  rw [qb7 (fun t e=>by cases e;rw [show (#[12,13].zip (encB x))=#[12,13].zip #[.int .i64 x.1.1,.int .i64 x.1.2] from rfl,qfy,hs2];decide)]
  rw [show (#[12,13].zip (encB x))=#[12,13].zip #[.int .i64 x.1.1,.int .i64 x.1.2] from rfl,qm7 (by omega) (by omega)]
  have:(⟨a2.tmps,[]⟩:Act)=a2:=by rw [←hdx]
  rw [this];rfl
 refine wpIn_rangeFunc_ownF (F:=Fence.wide) (n:=3) (α:={ p:Int × Int // 0≤p.2∧p.2<t.vars.length }) rfl (by decide) (gf:=174) (lb:=#[.pointer (some pb)]) (by rw [←qaZ,hf2];rfl) trivial (fun args w=>CallT.run inferInstance args w)
  (qe2 (n:=2) (Q:=fun p=>0≤p.2∧p.2<t.vars.length) (fun i hi=>hv _ (qal tInt.dflt hi)) hcb (hL.at hw))
  (fun h k=>⟨fun e=>k.1 (h.1 e),fun e=>k.2 (h.2 e)⟩) (fun W l o o' _ hl ho _=>⟨qcA hl ho,qgl hl ho⟩) (Go.RowKit.Below.refl _ _) (fun _=>rfl)
  (fun pre W=>W0.heap.size≤W.heap.size∧SatC W0.heap.size w0 W (Box pb 22 [va]::Box pn 3 [.int .i64 (putR t.vars (pre.map sndB) st n).2]::Box ps 22 [s]::Box pt 26 [a,b,c,d]::OS tInt 3 s (putR t.vars (pre.map sndB) st n).1::Γ))
  (fun _ _ _=>False) (SatC.own (Γ:=fun pre=>_) hB) (fun _=>fun _ _ _ _ h=>h.elim) ⟨Nat.le_refl _,hw.toC⟩
  (fun x=>({ tmps:=(#[12,13].zip (encB x)).foldl (fun t (p,v)=>t.setIfInBounds p v) a2.tmps,defers:=[] }:Act).put (some 9) (.int .i64 x.1.2)) ?assign ?body ?done ?stop
 case assign =>
  intro l x W K hK
  refine qdD (ro:=some l) mixed ?_ rfl ?_
  ·rw [show (#[12,13].zip (encB x))=#[12,13].zip #[.int .i64 x.1.1,.int .i64 x.1.2] from rfl,qfy,hs2];decide
  ·rw [show (#[12,13].zip (encB x))=#[12,13].zip #[.int .i64 x.1.1,.int .i64 x.1.2] from rfl,qm7 (by omega) (by omega)]
   exact hK
 case body =>
  rintro l pre x W ⟨hsz,hC⟩ _
  obtain⟨⟨xi,xv⟩,hx0,hx1⟩:=x
  simp only at hx0 hx1
  have hdom:=hp _ (qal tInt.dflt (show xv.toNat<t.vars.length by omega))
  have hln:=qiu t.vars (pre.map sndB) st n
  have hbd:=qnP (s:=st) (vs:=pre.map sndB) hp hn fun v hv=>by
   obtain⟨y,_,rfl⟩:=List.mem_map.1 hv
   exact y.2
  have hsn:=qc1 t.vars (pre.map sndB) st n xv
  obtain⟨S,hS⟩:∃ S,S=putR t.vars (pre.map sndB) st n:=⟨_,rfl⟩
  rw [←hS] at hC hln hbd hsn
  obtain⟨S1,S2⟩:=S
  simp only at hC hln hbd hsn
  refine wpIn_mono (qa1 (ro:=some l) (n:=31) mixed _ (by kernel_rfl) (fun e ρ W'=>e=.normal∧Kept W W'∧SatC W0.heap.size w0 W' (Box pb 22 [va]::Box pn 3 [.int .i64 (putF t.vars (S1,S2) xv).2]::Box ps 22 [s]::Box pt 26 [a,b,c,d]::OS tInt 3 s (putF t.vars (S1,S2) xv).1::Γ)) _ _ ?_ rfl ?_) ?_
  ·rw [size_put,show (#[12,13].zip (encB _))=#[12,13].zip #[.int .i64 xi,.int .i64 xv] from rfl,qfy,hs2]
  ·rw [e9,hf2]
   show vc _ _ _ (upd (upd (upd _ 12 (.int .i64 xi)) 13 (.int .i64 xv)) 9 (.int .i64 xv)) _
   clear hw
   have hw:=hC.open hB
   refine qcr ?_
   refine qbU ?_
   refine qin hw (by decide +kernel) ?_
   clear hw
   intro w1 hk1 hw
   repeat (first|refine qac ?_|(refine qaa ?_;clear hw;intro p w hw)|(refine qab ?_;clear hw;intro s w hw))
   refine qmD (T:=tInt) (s:=s) (j:=xv.toNat) (v:=.int .i64 (S2.tmod (t.vars.getD xv.toNat tInt.dflt))) (x':=S2.tmod (t.vars.getD xv.toNat tInt.dflt)) rfl rfl rfl hw inferInstance (by omega) rfl ?_
   clear hw
   intro w2 hw hk2
   repeat (first|refine qac ?_|(refine qaa ?_;clear hw;intro p w hw)|(refine qab ?_;clear hw;intro s w hw))
   refine qin hw (by decide +kernel) ?_
   clear hw
   intro w3 hk3 hw
   repeat (first|refine qac ?_|(refine qaa ?_;clear hw;intro p w hw)|(refine qab ?_;clear hw;intro s w hw))
   refine qla (k:=0) (p:=pn) (v:=.int .i64 (S2.tdiv (t.vars.getD xv.toNat tInt.dflt))) (by simp [Addr.add];rfl) rfl rfl hw inferInstance (by simp) ?_
   clear hw
   intro w4 hw hk4
   repeat (first|refine qac ?_|(refine qaa ?_;clear hw;intro p w hw)|(refine qab ?_;clear hw;intro s w hw))
   have hkk:=((hk1.trans hk2).trans hk3).trans hk4
   exact⟨rfl,hkk,hw.close hkk.1⟩
  ·intro e a' W' hq
   obtain⟨_,_,rfl,hkk,hC'⟩:=hq
   have hw':=hC'.sat0
   refine⟨hkk.others,⟨fun _=>qbE (i:=0) hw' rfl rfl,fun _=>hL.at hw'⟩,by rw [hkk.1];exact hsz,?_⟩
   rw [List.map_append,List.map_singleton,qc1,←hS]
   exact hC'
 case done =>
  rintro D xs W hD hS ⟨hsz,hC⟩ hK
  refine⟨by simp,.inl ⟨_,_,rfl,run_takeDeferred hK,?_⟩⟩
  rw [hdx]
  have hI:=(SatC.own (Γ:=fun pre:List { p:Int × Int // 0≤p.2∧p.2<t.vars.length }=>(Box pb 22 [va]::Box pn 3 [.int .i64 (putR t.vars (pre.map sndB) st n).2]::Box ps 22 [s]::Box pt 26 [a,b,c,d]::OS tInt 3 s (putR t.vars (pre.map sndB) st n).1::Γ)) hB).putObj (o':=.deferred none) ⟨hsz,hC⟩ hD hK rfl
  have hw':=hI.2.sat0
  have hxs:xs.map sndB=L.reverse:=by
   have:=congrArg (List.map (·.2)) hS
   rw [qmd,List.map_map] at this
   exact this
  rw [hxs] at hw'
  exact⟨.tuple #[],by simp [results,Tryz.f114],rfl,hw'.tail.tail.tail.tail⟩
 case stop =>
  rintro D c pre W _ _ hF _
  exact hF.elim
end Go.Proofs.YtjdlohdcdmhigaaGreatDoor
/-
  Contracts of 'project.check', 'count', 'number', 'has', 'outside'.
-/
namespace Go.Proofs.YtjdlohdcdmhigaaGreatDoor
open Go.Sl Go
attribute [local irreducible] vc opsW opsD opV opW PureV ReadV Thn Blk
instance (vars p:List Int):Decidable (PatOk vars p):=by unfold PatOk;infer_instance
noncomputable def chkP (t:TTask) (p:List Int):Int:=if checkT t≠0 then checkT t else if PatOk t.vars p then 0 else 2
set_option maxRecDepth 8000 in
set_option maxHeartbeats 2000000 in
theorem qil {w0:World}{a b c d va:Value}{vs:List OpV}{t:TTask}{L:List Int}(ht:RTask w0 a b c d vs t) (hp:RS tInt w0 va L) :
  Calls Tryz.prog 110 #[.agg #[a,b,c,d],va] w0 fun e w'=>e=.returned (errV (chkP t L))∧Sat w0 w' []:=by
 have ht':=ht
 obtain⟨ha,hb,hc,hd⟩:=ht
 have hla:=ha.big
 have hlp:=hp.big
 have hw:=Sat.start w0
 refine qaf (args:=[.agg #[a,b,c,d],va]) mixed Tryz.func110 rfl (by kernel_rfl) (Nat.le_of_ble_eq_true rfl) ?_
 repeat (first|refine qac ?_|(refine qaa ?_;clear hw;intro p w hw)|(refine qae ?_;clear hw;intro w hw)|(refine qab ?_;clear hw;intro s w hw))
 obtain⟨pt,hpt⟩:∃ pt,pt=p:=⟨p,rfl⟩
 subst hpt
 refine qah rfl (qbK (ht'.at hw)) ?_
 rintro _ w' ⟨rfl,hk'⟩
 replace hw:=hw.call0 hk'
 clear hk'
 refine⟨_,rfl,?_⟩
 by_cases hk:checkT t=0
 ·rw [qas hk]
  repeat (first|refine qac ?_|(refine qaa ?_;clear hw;intro p w hw)|(refine qae ?_;clear hw;intro w hw)|(refine qab ?_;clear hw;intro s w hw))
  refine qak [4,6,7,15,16,17,18,19,20,21,22,23,24,25,26,27,28,29,30,31,32,33,34,35,36,37,38,39,40,41,42,43] (G:=Nat) (fun k=>[(15,.int .i64 k)]) (fun k w=>k≤L.length∧(∀ i,i<k→(0≤L.getD i tInt.dflt∧L.getD i tInt.dflt<t.vars.length)∧(0<i→L.getD (i-1) tInt.dflt<L.getD i tInt.dflt))∧Sat w0 w [Box pt 26 [a,b,c,d]]) (fun k=>L.length-k) 0 (fun _=>rfl) ⟨rfl,trivial⟩ ⟨Nat.zero_le _,fun i hi=>absurd hi (Nat.not_lt_zero _),hw⟩ ?_
  clear hw
  rintro σ k w ⟨hk1,hpre,hw⟩
  repeat (first|refine qac ?_|(refine qaa ?_;clear hw;intro p w hw)|(refine qae ?_;clear hw;intro w hw)|(refine qab ?_;clear hw;intro s w hw))
  refine go_if (fun h1 => ?_) (fun h1 => ?_)
  ·have hkl:k<L.length:=by omega
   have e1:((k:Int)-1).toNat=k-1:=by omega
   repeat (first|refine qac ?_|(refine qaa ?_;clear hw;intro p w hw)|(refine qae ?_;clear hw;intro w hw)|(refine qab ?_;clear hw;intro s w hw))
   refine go_if (fun h2 => ?_) (fun h2 => ?_)
   ·repeat (first|refine qac ?_|(refine qaa ?_;clear hw;intro p w hw)|(refine qae ?_;clear hw;intro w hw)|(refine qab ?_;clear hw;intro s w hw))
    refine qai (v:=errV 2) rfl (by rw [qan (by decide)];rfl) ⟨?_,hw.tail⟩
    rw [chkP,if_neg (by simp [hk]),if_neg]
    intro hpk
    have h3:=hpk k hkl
    rw [e1] at h2
    rcases h2 with (h2|h2)|⟨h2,h4⟩
    ·omega
    ·omega
    ·have:=h3.2 (by omega);omega
   ·rw [e1] at h2
    repeat (first|refine qac ?_|(refine qaa ?_;clear hw;intro p w hw)|(refine qae ?_;clear hw;intro w hw)|(refine qab ?_;clear hw;intro s w hw))
    refine⟨k+1,⟨rfl,trivial⟩,agr,⟨by omega,fun i hi => ?_,hw⟩,by omega⟩
    by_cases h:i=k
    ·subst h;exact⟨by omega,fun h0=>by omega⟩
    ·exact hpre i (by omega)
  ·repeat (first|refine qac ?_|(refine qaa ?_;clear hw;intro p w hw)|(refine qae ?_;clear hw;intro w hw)|(refine qab ?_;clear hw;intro s w hw))
   refine qai (v:=errV 0) rfl (by rw [qas rfl];rfl) ⟨?_,hw.tail⟩
   rw [chkP,if_neg (by simp [hk]),if_pos]
   intro i hi
   exact hpre i (by omega)
 ·rw [qan hk]
  repeat (first|refine qac ?_|(refine qaa ?_;clear hw;intro p w hw)|(refine qae ?_;clear hw;intro w hw)|(refine qab ?_;clear hw;intro s w hw))
  refine qai (v:=errV (checkT t)) rfl (by rw [qan hk];rfl) ⟨?_,hw.tail⟩
  rw [chkP,if_pos hk]
theorem qhd {vars L:List Int}(hd:∀ x∈vars,1≤x) (hL:∀ v∈L,0≤v∧v<vars.length) (k:Nat):cntL vars (L.take k)≤cntL vars L:=by
 have h1:valsL vars (L.take k)=(valsL vars L).take k:=by simp [valsL,List.map_take]
 rw [cntL,h1];exact qcu (qgt hd hL) k
theorem qjX {vars L:List Int}{k:Nat}(hk:k<L.length):cntL vars (L.take (k+1))=cntL vars (L.take k)*sg vars (L.getD k tInt.dflt):=by
 rw [qaj tInt.dflt hk,qgu]
theorem qjY {vars L s:List Int}{k:Nat}(hk:k<L.length):idxL vars (L.take (k+1)) s=idxL vars (L.take k) s*sg vars (L.getD k tInt.dflt)+sg s (L.getD k tInt.dflt):=by
 rw [qaj tInt.dflt hk,qgv]
set_option maxRecDepth 8000 in
set_option maxHeartbeats 2000000 in
theorem qdC {w0:World}{a b c d va:Value}{vs:List OpV}{t:TTask}{L:List Int}(ht:RTask w0 a b c d vs t) (hp:RS tInt w0 va L) (hg:GoodT t) (hL:∀ v∈L,0≤v∧v<t.vars.length) :
  Calls Tryz.prog 111 #[.agg #[a,b,c,d],va] w0 fun e w'=>e=.returned (.tuple (if cntL t.vars L≤4096 then #[.int .i64 (cntL t.vars L),.bool true] else #[.int .i64 0,.bool false]))∧Sat w0 w' []:=by
 obtain⟨ha,hb,hc,hd⟩:=ht
 have hla:=ha.big
 have hlp:=hp.big
 have hw:=Sat.start w0
 refine qaf (args:=[.agg #[a,b,c,d],va]) mixed Tryz.func111 rfl (by kernel_rfl) (Nat.le_of_ble_eq_true rfl) ?_
 repeat (first|refine qac ?_|(refine qaa ?_;clear hw;intro p w hw)|(refine qae ?_;clear hw;intro w hw)|(refine qab ?_;clear hw;intro s w hw))
 obtain⟨pt,hpt⟩:∃ pt,pt=p:=⟨p,rfl⟩
 subst hpt
 refine qaq [4,5,6,8,11,12,13,14,15,16,17,18,19,20,21,22,23,24] (G:=Nat) (H:=Int) (fun k n=>[(11,.int .i64 k),(6,.int .i64 n)]) (fun k n w=>k≤L.length∧n=cntL t.vars (L.take k)∧n≤4096∧Sat w0 w [Box pt 26 [a,b,c,d]]) (fun k _=>L.length-k) 0 1 (fun _ _=>rfl) ⟨rfl,rfl,trivial⟩ ⟨Nat.zero_le _,rfl,by decide,hw⟩ ?_
 clear hw
 rintro σ k n w ⟨hk,hn,hnm,hw⟩
 repeat (first|refine qac ?_|(refine qaa ?_;clear hw;intro p w hw)|(refine qae ?_;clear hw;intro w hw)|(refine qab ?_;clear hw;intro s w hw))
 refine go_if (fun h1 => ?_) (fun h1 => ?_)
 ·have hkl:k<L.length:=by omega
  have hv:=hL _ (qal tInt.dflt hkl)
  have hdm:=hg.dom (L.getD k tInt.dflt).toNat (by omega)
  have hpos:1≤n:=by rw [hn];exact qfJ hg.pos fun v hv=>hL v (List.mem_of_mem_take hv)
  have hS:cntL t.vars (L.take (k+1))=n*sg t.vars (L.getD k tInt.dflt):=by rw [qjX hkl,hn]
  have hle:=qhd hg.pos hL (k+1)
  simp only [sg] at hS
  have b0:0≤n*t.vars.getD (L.getD k tInt.dflt).toNat tInt.dflt:=Int.mul_nonneg (by omega) (by omega)
  have b1:n*t.vars.getD (L.getD k tInt.dflt).toNat tInt.dflt≤4096*64:=Int.mul_le_mul hnm (by omega) (by omega) (by omega)
  repeat (first|refine qac ?_|(refine qaa ?_;clear hw;intro p w hw)|(refine qae ?_;clear hw;intro w hw)|(refine qab ?_;clear hw;intro s w hw))
  refine go_if (fun h2 => ?_) (fun h2 => ?_)
  ·repeat (first|refine qac ?_|(refine qaa ?_;clear hw;intro p w hw)|(refine qae ?_;clear hw;intro w hw)|(refine qab ?_;clear hw;intro s w hw))
   refine qay (v:=.int .i64 0) (v':=.bool false) rfl rfl rfl ⟨?_,hw.tail⟩
   rw [if_neg (by omega)]
  ·repeat (first|refine qac ?_|(refine qaa ?_;clear hw;intro p w hw)|(refine qae ?_;clear hw;intro w hw)|(refine qab ?_;clear hw;intro s w hw))
   exact⟨k+1,_,⟨rfl,rfl,trivial⟩,agr,⟨by omega,hS.symm,by omega,hw⟩,by omega⟩
 ·repeat (first|refine qac ?_|(refine qaa ?_;clear hw;intro p w hw)|(refine qae ?_;clear hw;intro w hw)|(refine qab ?_;clear hw;intro s w hw))
  refine qay (v:=.int .i64 n) (v':=.bool true) rfl rfl rfl ⟨?_,hw.tail⟩
  rw [List.take_of_length_le (by omega)] at hn
  rw [if_pos (by omega),hn]
set_option maxRecDepth 8000 in
set_option maxHeartbeats 2000000 in
theorem qe1 {w0:World}{a b c d va sv:Value}{vs:List OpV}{t:TTask}{L s:List Int}(ht:RTask w0 a b c d vs t) (hp:RS tInt w0 va L) (hs:RS tInt w0 sv s) (hg:GoodT t) (hL:∀ v∈L,0≤v∧v<t.vars.length) (hok:StateOk t.vars s) (hB:cntL t.vars L≤1099511627776) :
  Calls Tryz.prog 112 #[.agg #[a,b,c,d],va,sv] w0 fun e w'=>e=.returned (.int .i64 (idxL t.vars L s))∧Sat w0 w' []:=by
 obtain⟨ha,hb,hc,hd⟩:=ht
 have hla:=ha.big
 have hlp:=hp.big
 have hls:=hok.1
 have hw:=Sat.start w0
 refine qaf (args:=[.agg #[a,b,c,d],va,sv]) mixed Tryz.func112 rfl (by kernel_rfl) (Nat.le_of_ble_eq_true rfl) ?_
 repeat (first|refine qac ?_|(refine qaa ?_;clear hw;intro p w hw)|(refine qae ?_;clear hw;intro w hw)|(refine qab ?_;clear hw;intro s w hw))
 obtain⟨pt,hpt⟩:∃ pt,pt=p:=⟨p,rfl⟩
 subst hpt
 refine qaq [7,9,12,13,14,15,16,17,18,19,20,21,22,23,24,25,26,27,28] (G:=Nat) (H:=Int) (fun k n=>[(12,.int .i64 k),(7,.int .i64 n)]) (fun k n w=>k≤L.length∧n=idxL t.vars (L.take k) s∧Sat w0 w [Box pt 26 [a,b,c,d]]) (fun k _=>L.length-k) 0 0 (fun _ _=>rfl) ⟨rfl,rfl,trivial⟩ ⟨Nat.zero_le _,rfl,hw⟩ ?_
 clear hw
 rintro σ k n w ⟨hk,hn,hw⟩
 repeat (first|refine qac ?_|(refine qaa ?_;clear hw;intro p w hw)|(refine qae ?_;clear hw;intro w hw)|(refine qab ?_;clear hw;intro s w hw))
 refine go_if (fun h1 => ?_) (fun h1 => ?_)
 ·have hkl:k<L.length:=by omega
  have hv:=hL _ (qal tInt.dflt hkl)
  have hr:=hok.rng hv.1 hv.2
  have hb1:=qbB (p:=L.take k) hok fun v hv=>hL v (List.mem_of_mem_take hv)
  have hb2:=qbB (p:=L.take (k+1)) hok fun v hv=>hL v (List.mem_of_mem_take hv)
  have hle:=qhd hg.pos hL (k+1)
  have hS:=qjY (vars:=t.vars) (s:=s) hkl
  rw [←hn] at hb1 hS
  simp only [sg] at hS hr
  have b0:0≤n*t.vars.getD (L.getD k tInt.dflt).toNat tInt.dflt:=Int.mul_nonneg (by omega) (by omega)
  repeat (first|refine qac ?_|(refine qaa ?_;clear hw;intro p w hw)|(refine qae ?_;clear hw;intro w hw)|(refine qab ?_;clear hw;intro s w hw))
  exact⟨k+1,_,⟨rfl,rfl,trivial⟩,agr,⟨by omega,hS.symm,hw⟩,by omega⟩
 ·repeat (first|refine qac ?_|(refine qaa ?_;clear hw;intro p w hw)|(refine qae ?_;clear hw;intro w hw)|(refine qab ?_;clear hw;intro s w hw))
  refine qai (v:=.int .i64 n) rfl rfl ⟨?_,hw.tail⟩
  rw [List.take_of_length_le (by omega)] at hn
  rw [hn]
end Go.Proofs.YtjdlohdcdmhigaaGreatDoor
/-
  Contracts of 'project.has' and 'outside'.
-/
namespace Go.Proofs.YtjdlohdcdmhigaaGreatDoor
open Go.Sl Go
attribute [local irreducible] vc opsW opsD opV opW PureV ReadV Thn Blk
theorem qkg {w0 w:World}{Γ:List HP}{p:Addr}{v:Value}(h:w0.cell? p=some v) (hw:Sat w0 w Γ):w.cell? p=some v:=by
 have hlt:p.block<w0.heap.size:=by
  rcases Nat.lt_or_ge p.block w0.heap.size with h'|h'
  ·exact h'
  ·simp [World.cell?,Array.getElem?_eq_none h'] at h
 rw [hw.below.cell hlt];exact h
set_option maxRecDepth 8000 in
theorem qlC {w0:World}{pv:Addr}{v:Int}{x:Fact}(hv:w0.cell? pv=some (.int .i64 v)) :
  Calls Tryz.prog 173 #[.agg #[.int .i64 x.var,.int .i64 x.val],.pointer (some pv)] w0 fun e w'=>e=.returned (.bool (decide (x.var=v)))∧Sat w0 w' []:=by
 have hw:=Sat.start w0
 refine qaf (args:=[.agg #[.int .i64 x.var,.int .i64 x.val],.pointer (some pv)]) mixed Tryz.func173 rfl (by kernel_rfl) (Nat.le_of_ble_eq_true rfl) ?_
 repeat (first|refine qac ?_|(refine qaa ?_;clear hw;intro p w hw)|(refine qae ?_;clear hw;intro w hw)|(refine qab ?_;clear hw;intro s w hw))
 refine qaE rfl (qbz rfl (qkg hv hw)) ?_
 repeat (first|refine qac ?_|(refine qaa ?_;clear hw;intro p w hw)|(refine qae ?_;clear hw;intro w hw)|(refine qab ?_;clear hw;intro s w hw))
 exact qai (v:=.bool (decide (x.var=v))) rfl rfl ⟨rfl,hw.tail⟩
set_option maxRecDepth 8000 in
theorem qh5 {w0:World}{a:Value}{f:List Fact}{pv:Addr}{v:Int}(ha:RS tFact w0 a f) (hv:w0.cell? pv=some (.int .i64 v)) :
  Calls Tryz.prog 198 #[a,.func (.func 173) #[] #[.pointer (some pv)]] w0 fun e w'=>(∃ r:Int,e=.returned (.int .i64 r)∧(0≤r↔∃ x∈f,x.var=v))∧Sat w0 w' []:=by
 have hla:=ha.big
 have hw:=Sat.start w0
 refine qaf (args:=[a,.func (.func 173) #[] #[.pointer (some pv)]]) mixed Tryz.func198 rfl (by kernel_rfl) (Nat.le_of_ble_eq_true rfl) ?_
 repeat (first|refine qac ?_|(refine qaa ?_;clear hw;intro p w hw)|(refine qae ?_;clear hw;intro w hw)|(refine qab ?_;clear hw;intro s w hw))
 refine qak [4,5,8,9,10,11,12,13,14,15,16,17,18] (G:=Nat) (fun k=>[(8,.int .i64 k)]) (fun k w=>k≤f.length∧(∀ i,i<k→(f.getD i tFact.dflt).var≠v)∧Sat w0 w []) (fun k=>f.length-k) 0 (fun _=>rfl) ⟨rfl,trivial⟩ ⟨Nat.zero_le _,fun i hi=>absurd hi (Nat.not_lt_zero _),hw⟩ ?_
 clear hw
 rintro σ k w ⟨hk,hpre,hw⟩
 repeat (first|refine qac ?_|(refine qaa ?_;clear hw;intro p w hw)|(refine qae ?_;clear hw;intro w hw)|(refine qab ?_;clear hw;intro s w hw))
 refine go_if (fun h1 => ?_) (fun h1 => ?_)
 ·have hkl:k<f.length:=by omega
  repeat (first|refine qac ?_|(refine qaa ?_;clear hw;intro p w hw)|(refine qae ?_;clear hw;intro w hw)|(refine qab ?_;clear hw;intro s w hw))
  refine qbu (cs:=[.pointer (some pv)]) rfl rfl (qlC (x:=f.getD k tFact.dflt) (qkg hv hw)) ?_
  rintro _ w' ⟨rfl,hk'⟩
  replace hw:=hw.call0 hk'
  clear hk'
  refine⟨_,rfl,?_⟩
  repeat (first|refine qac ?_|(refine qaa ?_;clear hw;intro p w hw)|(refine qae ?_;clear hw;intro w hw)|(refine qab ?_;clear hw;intro s w hw))
  refine go_if (fun h2 => ?_) (fun h2 => ?_)
  ·repeat (first|refine qac ?_|(refine qaa ?_;clear hw;intro p w hw)|(refine qae ?_;clear hw;intro w hw)|(refine qab ?_;clear hw;intro s w hw))
   refine qai (v:=.int .i64 k) rfl rfl ⟨⟨k,rfl,⟨fun _=>⟨_,qal tFact.dflt hkl,h2⟩,fun _=>by omega⟩⟩,hw⟩
  ·repeat (first|refine qac ?_|(refine qaa ?_;clear hw;intro p w hw)|(refine qae ?_;clear hw;intro w hw)|(refine qab ?_;clear hw;intro s w hw))
   refine⟨k+1,⟨rfl,trivial⟩,agr,⟨by omega,fun i hi => ?_,hw⟩,by omega⟩
   by_cases h:i=k
   ·subst h;exact h2
   ·exact hpre i (by omega)
 ·repeat (first|refine qac ?_|(refine qaa ?_;clear hw;intro p w hw)|(refine qae ?_;clear hw;intro w hw)|(refine qab ?_;clear hw;intro s w hw))
  refine qai (v:=.int .i64 (-1)) rfl rfl ⟨⟨-1,rfl,⟨fun h=>by omega,?_⟩⟩,hw⟩
  rintro⟨x,hx,he⟩
  obtain⟨i,hi,rfl⟩:=List.mem_iff_getElem.1 hx
  exact absurd (by rw [getD_at hi];exact he) (hpre i (by omega))
set_option maxRecDepth 8000 in
theorem qlD {w0:World}{a:Value}{f:List Fact}{pv:Addr}{v:Int}(ha:RS tFact w0 a f) (hv:w0.cell? pv=some (.int .i64 v)) :
  Calls Tryz.prog 172 #[a,.func (.func 173) #[] #[.pointer (some pv)]] w0 fun e w'=>(∃ r,e=.returned (.bool r)∧(r=true↔∃ x∈f,x.var=v))∧Sat w0 w' []:=by
 have hw:=Sat.start w0
 refine qaf (args:=[a,.func (.func 173) #[] #[.pointer (some pv)]]) mixed Tryz.func172 rfl (by kernel_rfl) (Nat.le_of_ble_eq_true rfl) ?_
 repeat (first|refine qac ?_|(refine qaa ?_;clear hw;intro p w hw)|(refine qae ?_;clear hw;intro w hw)|(refine qab ?_;clear hw;intro s w hw))
 refine qah rfl (qh5 ha hv) ?_
 rintro _ w' ⟨⟨r,rfl,hr⟩,hk'⟩
 replace hw:=hw.call0 hk'
 clear hk'
 refine⟨_,rfl,?_⟩
 repeat (first|refine qac ?_|(refine qaa ?_;clear hw;intro p w hw)|(refine qae ?_;clear hw;intro w hw)|(refine qab ?_;clear hw;intro s w hw))
 exact qai (v:=.bool (decide (0≤r))) rfl rfl ⟨⟨_,rfl,by rw [decide_eq_true_eq];exact hr⟩,hw⟩
set_option maxRecDepth 8000 in
theorem qm4 {w0:World}{a:Value}{f:List Fact}{v:Int}(ha:RS tFact w0 a f) :
  Calls Tryz.prog 143 #[a,.int .i64 v] w0 fun e w'=>(∃ r,e=.returned (.bool r)∧(r=true↔∃ x∈f,x.var=v))∧Sat w0 w' []:=by
 have hw:=Sat.start w0
 refine qaf (args:=[a,.int .i64 v]) mixed Tryz.func143 rfl (by kernel_rfl) (Nat.le_of_ble_eq_true rfl) ?_
 repeat (first|refine qac ?_|(refine qaa ?_;clear hw;intro p w hw)|(refine qae ?_;clear hw;intro w hw)|(refine qab ?_;clear hw;intro s w hw))
 refine qah rfl (qlD (v:=v) (ha.at hw) (qbE (i:=0) hw rfl rfl)) ?_
 rintro _ w' ⟨⟨r,rfl,hr⟩,hk'⟩
 replace hw:=hw.call0 hk'
 clear hk'
 refine⟨_,rfl,?_⟩
 repeat (first|refine qac ?_|(refine qaa ?_;clear hw;intro p w hw)|(refine qae ?_;clear hw;intro w hw)|(refine qab ?_;clear hw;intro s w hw))
 exact qai (v:=.bool r) rfl rfl ⟨⟨_,rfl,hr⟩,hw.tail⟩
def FreeK (o:TOp) (L:List Int) (k:Nat) (u:Int):Prop:=(∃ e∈o.effs.take k,e.var∈L∧∃ f∈e.when,f.var=u)∧u∉L∧∀ f∈o.pre,f.var≠u
def FreeJ (o:TOp) (L:List Int) (k:Nat) (f:List Fact) (u:Int):Prop:=FreeK o L k u∨((∃ x∈f,x.var=u)∧u∉L∧∀ x∈o.pre,x.var≠u)
theorem qji (o:TOp) (L:List Int) (u:Int):¬FreeK o L 0 u:=fun⟨⟨e,he,_⟩,_⟩=>by simp at he
theorem qjj {o:TOp}{L:List Int}{k:Nat}{u:Int}(hk:k<o.effs.length) (hm:(o.effs.getD k dEff).var∈L):FreeJ o L k (o.effs.getD k dEff).when u↔FreeK o L (k+1) u:=by
 unfold FreeJ FreeK
 rw [qaj dEff hk]
 constructor
 ·rintro (⟨⟨e,he,h1⟩,h2⟩|⟨⟨x,hx,hxu⟩,h2⟩)
  ·exact⟨⟨e,by simp [he],h1⟩,h2⟩
  ·exact⟨⟨_,by simp,hm,x,hx,hxu⟩,h2⟩
 ·rintro⟨⟨e,he,h1,h3⟩,h2⟩
  rcases List.mem_append.1 he with he|he
  ·exact .inl ⟨⟨e,he,h1,h3⟩,h2⟩
  ·rw [List.mem_singleton.1 he] at h3
   exact .inr ⟨h3,h2⟩
theorem qjk {o:TOp}{L:List Int}{k:Nat}{u:Int}(hk:k<o.effs.length) (hm:(o.effs.getD k dEff).var∉L):FreeK o L k u↔FreeK o L (k+1) u:=by
 unfold FreeK
 rw [qaj dEff hk]
 constructor
 ·rintro⟨⟨e,he,h1⟩,h2⟩
  exact⟨⟨e,by simp [he],h1⟩,h2⟩
 ·rintro⟨⟨e,he,h1,h3⟩,h2⟩
  rcases List.mem_append.1 he with he|he
  ·exact⟨⟨e,he,h1,h3⟩,h2⟩
  ·rw [List.mem_singleton.1 he] at h1
   exact absurd h1 hm
theorem qjl {o:TOp}{L:List Int}{k:Nat}{f:List Fact}{x:Fact}{u:Int}:FreeJ o L k (f++[x]) u↔FreeJ o L k f u∨(u=x.var∧u∉L∧∀ y∈o.pre,y.var≠u):=by
 unfold FreeJ
 constructor
 ·rintro (h|⟨⟨y,hy,hyu⟩,h2⟩)
  ·exact .inl (.inl h)
  ·rcases List.mem_append.1 hy with hy|hy
   ·exact .inl (.inr ⟨⟨y,hy,hyu⟩,h2⟩)
   ·rw [List.mem_singleton.1 hy] at hyu
    exact .inr ⟨hyu.symm,h2⟩
 ·rintro ((h|⟨⟨y,hy,hyu⟩,h2⟩)|⟨rfl,h2⟩)
  ·exact .inl h
  ·exact .inr ⟨⟨y,by simp [hy],hyu⟩,h2⟩
  ·exact .inr ⟨⟨x,by simp,rfl⟩,h2⟩
theorem ql5 {xs:List Int}(h:xs.Nodup):(sortL xs).Pairwise (·<·):=by
 have h1:=qiS xs
 have h2:(sortL xs).Nodup:=(List.mergeSort_perm xs _).nodup_iff.2 h
 exact (h1.and h2).imp fun h=>by omega
set_option maxRecDepth 8000 in
set_option maxHeartbeats 2000000 in
theorem qhe {w0:World}{va:Value}{v:OpV}{o:TOp}{vars L:List Int}(hv:ROp w0 v o) (hp:RS tInt w0 va L) (ho:OpOk vars o) (hn:vars.length≤64) :
  Calls Tryz.prog 113 #[.agg (tOp.enc v).toArray,va] w0 fun e w'=>∃ s,e=.returned s∧Sat w0 w' [OS tInt 3 s (freeL vars o L)]:=by
 have hone:=hv.one
 obtain⟨es,hes⟩:=hv.effs
 have hers:=hes.rs
 have hel:=hes.len
 have heb:=hers.big
 have hpre:=hv.pre
 have he64:=ho.effs
 have hw:=Sat.start w0
 refine qaf (args:=[.agg (tOp.enc v).toArray,va]) mixed Tryz.func113 rfl (by kernel_rfl) (Nat.le_of_ble_eq_true rfl) ?_
 repeat (first|refine qac ?_|(refine qaa ?_;clear hw;intro p w hw)|(refine qae ?_;clear hw;intro w hw)|(refine qab ?_;clear hw;intro s w hw))
 obtain⟨pt,hpt⟩:∃ pt,pt=p:=⟨p,rfl⟩
 subst hpt
 refine qbf [5,7,9,13,14,15,16,17,18,19,20,21,22,23,24,25,26,27,28,29,30,31,32,33,34,35,36,37,38,39,40,41,42,43,44,45,46,47,48,49,50,51,52,53,54,55] (G:=Nat) (H:=Value) (I:=List Int) (fun k s _=>[(13,.int .i64 k),(5,s)]) (fun k s xs w=>k≤o.effs.length∧xs.Nodup∧xs.length≤64*k∧(∀ u,u∈xs↔FreeK o L k u)∧Sat w0 w [OS tInt 3 s xs,Box pt 44 (tOp.enc v)]) (fun k _ _=>o.effs.length-k) 0 (.slice none 0 0) [] (fun _ _ _=>rfl) ⟨rfl,rfl,trivial⟩ ⟨Nat.zero_le _,List.nodup_nil,by simp,fun u=>⟨fun h=>by simp at h,fun h=>absurd h (qji o L u)⟩,hw.nil⟩ ?_
 clear hw
 rintro σ k s xs w ⟨hk,hnd,hxl,hmem,hw⟩
 repeat (first|refine qac ?_|(refine qaa ?_;clear hw;intro p w hw)|(refine qae ?_;clear hw;intro w hw)|(refine qab ?_;clear hw;intro s w hw))
 refine go_if (fun h1 => ?_) (fun h1 => ?_)
 ·have hkl:k<o.effs.length:=by omega
  have hek:=hes.at_ k hkl
  have hwh:=hek.when
  have hone2:=hek.one
  have hv1:=hek.var
  have heo:=ho.eff k hkl
  have hwl:=qaK heo.1
  have hwb:=hwh.big
  obtain⟨F,hF⟩:∃ F,F=(o.effs.getD k dEff).when:=⟨_,rfl⟩
  rw [←hF] at hwh hwl hwb
  repeat (first|refine qac ?_|(refine qaa ?_;clear hw;intro p w hw)|(refine qae ?_;clear hw;intro w hw)|(refine qab ?_;clear hw;intro s w hw))
  obtain⟨pe,hpe⟩:∃ pe,pe=p:=⟨p,rfl⟩
  subst hpe
  refine qah rfl (qaI (hp.at hw)) ?_
  rintro _ w' ⟨rfl,hk'⟩
  replace hw:=hw.call0 hk'
  clear hk'
  by_cases hm:(eget tEff es k).var∈L
  ·rw [decide_eq_true hm]
   refine⟨_,rfl,?_⟩
   rw [hv1] at hm
   repeat (first|refine qac ?_|(refine qaa ?_;clear hw;intro p w hw)|(refine qae ?_;clear hw;intro w hw)|(refine qab ?_;clear hw;intro s w hw))
   refine qbf [5,9,25,26,27,28,29,30,31,32,33,34,35,36,37,38,39,40,41,42,43,44,45,46,47,48,49,50,51,52,53,54] (G:=Nat) (H:=Value) (I:=List Int) (fun j s _=>[(25,.int .i64 j),(5,s)]) (fun j s xs w=>j≤F.length∧xs.Nodup∧xs.length≤64*k+j∧(∀ u,u∈xs↔FreeJ o L k (F.take j) u)∧Sat w0 w [Box pe 67 (tEff.enc (eget tEff es k)),OS tInt 3 s xs,Box pt 44 (tOp.enc v)]) (fun j _ _=>F.length-j) 0 s xs (fun _ _ _=>rfl) ⟨rfl,rfl,trivial⟩ ⟨Nat.zero_le _,hnd,by omega,fun u=>(hmem u).trans ⟨fun h=>.inl h,fun h=>by rcases h with h|⟨⟨x,hx,_⟩,_⟩;exact h;simp at hx⟩,hw⟩ ?_
   clear hw hmem hnd hxl
   rintro σ1 j s xs w ⟨hj,hnd,hxl,hmem,hw⟩
   repeat (first|refine qac ?_|(refine qaa ?_;clear hw;intro p w hw)|(refine qae ?_;clear hw;intro w hw)|(refine qab ?_;clear hw;intro s w hw))
   refine go_if (fun h2 => ?_) (fun h2 => ?_)
   ·have hjl:j<F.length:=by omega
    have hsn:=fun u=>qjl (o:=o) (L:=L) (k:=k) (f:=F.take j) (x:=F.getD j tFact.dflt) (u:=u)
    rw [←qaj tFact.dflt hjl] at hsn
    repeat (first|refine qac ?_|(refine qaa ?_;clear hw;intro p w hw)|(refine qae ?_;clear hw;intro w hw)|(refine qab ?_;clear hw;intro s w hw))
    refine qah rfl (qaI (hp.at hw)) ?_
    rintro _ w' ⟨rfl,hk'⟩
    replace hw:=hw.call0 hk'
    clear hk'
    by_cases hm2:(F.getD j tFact.dflt).var∈L
    ·rw [decide_eq_true hm2]
     refine⟨_,rfl,?_⟩
     repeat (first|refine qac ?_|(refine qaa ?_;clear hw;intro p w hw)|(refine qae ?_;clear hw;intro w hw)|(refine qab ?_;clear hw;intro s w hw))
     refine⟨j+1,s,xs,⟨rfl,rfl,trivial⟩,agr,⟨by omega,hnd,by omega,fun u => ?_,hw.tail⟩,by omega⟩
     rw [hmem u,hsn u]
     exact⟨.inl,fun h=>h.resolve_right fun h=>h.2.1 (h.1 ▸ hm2)⟩
    ·rw [decide_eq_false hm2]
     refine⟨_,rfl,?_⟩
     repeat (first|refine qac ?_|(refine qaa ?_;clear hw;intro p w hw)|(refine qae ?_;clear hw;intro w hw)|(refine qab ?_;clear hw;intro s w hw))
     refine qah rfl (qm4 (hpre.at hw)) ?_
     rintro _ w' ⟨⟨r,rfl,hr⟩,hk'⟩
     replace hw:=hw.call0 hk'
     clear hk'
     refine⟨_,rfl,?_⟩
     cases r with
     | true =>
      repeat (first|refine qac ?_|(refine qaa ?_;clear hw;intro p w hw)|(refine qae ?_;clear hw;intro w hw)|(refine qab ?_;clear hw;intro s w hw))
      refine⟨j+1,s,xs,⟨rfl,rfl,trivial⟩,agr,⟨by omega,hnd,by omega,fun u => ?_,hw.tail⟩,by omega⟩
      rw [hmem u,hsn u]
      obtain⟨y,hy,hyu⟩:=hr.1 rfl
      exact⟨.inl,fun h=>h.resolve_right fun h=>h.2.2 y hy (by rw [hyu,h.1])⟩
     | false =>
      have hnp:∀ y∈o.pre,y.var≠(F.getD j tFact.dflt).var:=fun y hy e=>by have:=hr.2 ⟨y,hy,e⟩;cases this
      repeat (first|refine qac ?_|(refine qaa ?_;clear hw;intro p w hw)|(refine qae ?_;clear hw;intro w hw)|(refine qab ?_;clear hw;intro s w hw))
      refine qah rfl (qaI (a:=s) (rsO hw)) ?_
      rintro _ w' ⟨rfl,hk'⟩
      replace hw:=hw.call0 hk'
      clear hk'
      by_cases hm3:(F.getD j tFact.dflt).var∈xs
      ·rw [decide_eq_true hm3]
       refine⟨_,rfl,?_⟩
       repeat (first|refine qac ?_|(refine qaa ?_;clear hw;intro p w hw)|(refine qae ?_;clear hw;intro w hw)|(refine qab ?_;clear hw;intro s w hw))
       refine⟨j+1,s,xs,⟨rfl,rfl,trivial⟩,agr,⟨by omega,hnd,by omega,fun u => ?_,hw.tail⟩,by omega⟩
       rw [hsn u,←hmem u]
       exact⟨.inl,fun h=>h.elim id fun h=>h.1 ▸ hm3⟩
      ·rw [decide_eq_false hm3]
       refine⟨_,rfl,?_⟩
       repeat (first|refine qac ?_|(refine qaa ?_;clear hw;intro p w hw)|(refine qae ?_;clear hw;intro w hw)|(refine qab ?_;clear hw;intro s w hw))
       refine⟨j+1,_,xs++[(F.getD j tFact.dflt).var],⟨rfl,rfl,trivial⟩,agr,⟨by omega,?_,by simp;omega,fun u => ?_,hw.tail.tail⟩,by omega⟩
       ·rw [List.nodup_append]
        refine⟨hnd,by simp,fun x hx y hy e => ?_⟩
        rw [List.mem_singleton.1 hy] at e
        exact hm3 (e ▸ hx)
       ·rw [hsn u,←hmem u,List.mem_append,List.mem_singleton]
        exact⟨fun h=>h.elim .inl fun h=>.inr ⟨h,h ▸ hm2,fun y hy=>h ▸ hnp y hy⟩,fun h=>h.elim .inl fun h=>.inr h.1⟩
   ·rw [List.take_of_length_le (by omega)] at hmem
    repeat (first|refine qac ?_|(refine qaa ?_;clear hw;intro p w hw)|(refine qae ?_;clear hw;intro w hw)|(refine qab ?_;clear hw;intro s w hw))
    refine⟨k+1,s,xs,⟨rfl,rfl,trivial⟩,agr,⟨by omega,hnd,by omega,fun u => ?_,hw.tail⟩,by omega⟩
    rw [hmem u,hF,qjj hkl hm]
  ·rw [decide_eq_false hm]
   refine⟨_,rfl,?_⟩
   rw [hv1] at hm
   repeat (first|refine qac ?_|(refine qaa ?_;clear hw;intro p w hw)|(refine qae ?_;clear hw;intro w hw)|(refine qab ?_;clear hw;intro s w hw))
   refine⟨k+1,s,xs,⟨rfl,rfl,trivial⟩,agr,⟨by omega,hnd,by omega,fun u => ?_,hw.tail⟩,by omega⟩
   rw [hmem u,qjk hkl hm]
 ·have hke:k=o.effs.length:=by omega
  subst hke
  repeat (first|refine qac ?_|(refine qaa ?_;clear hw;intro p w hw)|(refine qae ?_;clear hw;intro w hw)|(refine qab ?_;clear hw;intro s w hw))
  refine qah rfl (qeZ hw (by omega)) ?_
  clear hw
  rintro _ w' ⟨rfl,hw⟩
  refine⟨_,rfl,?_⟩
  repeat (first|refine qac ?_|(refine qaa ?_;clear hw;intro p w hw)|(refine qae ?_;clear hw;intro w hw)|(refine qab ?_;clear hw;intro s w hw))
  refine qai (v:=s) rfl rfl ⟨s,rfl,?_⟩
  have e:sortL xs=freeL vars o L:=by
   refine qfL (ql5 hnd) fun u => ?_
   rw [qgZ,hmem u]
   unfold FreeK FreeOf
   rw [List.take_length]
   constructor
   ·rintro⟨⟨e,he,h1,f,hf,hfu⟩,h2⟩
    have:=qbG (ho.mem e he).1 f hf
    exact⟨⟨hfu ▸ this.1,hfu ▸ this.2.1⟩,⟨e,he,h1,f,hf,hfu⟩,h2⟩
   ·exact fun h=>h.2
  rw [e] at hw
  exact hw.only
end Go.Proofs.YtjdlohdcdmhigaaGreatDoor
/-
  Contract of 'project.targets'.
-/
namespace Go.Proofs.YtjdlohdcdmhigaaGreatDoor
open Go.Sl Go
attribute [local irreducible] vc opsW opsD opV opW PureV ReadV Thn Blk
theorem qit (l:List Int):compL l=((List.range l.length).filter fun j=>decide (j=0∨l.getD j tInt.dflt≠l.getD (j-1) tInt.dflt)).map fun j=>l.getD j tInt.dflt:=by
 have e:∀ j,l.toArray[j]! = l.getD j tInt.dflt:=fun j=>by
  simp [getElem!_def,List.getD]
  cases l[j]? <;> rfl
 unfold compL Lib.compact Lib.compactUpTo Lib.keeps
 simp only [e]
theorem qkx {l:List Int}{x:Int}:x∈compL l↔x∈l:=by
 rw [qit]
 simp only [List.mem_map,List.mem_filter,List.mem_range,decide_eq_true_eq]
 constructor
 ·rintro⟨j,⟨hj,_⟩,rfl⟩;exact qal _ hj
 ·intro hx
  obtain⟨i,hi,he⟩:=List.mem_iff_getElem.1 hx
  have key:∀ i,i<l.length→∃ j,(j<l.length∧(j=0∨l.getD j tInt.dflt≠l.getD (j-1) tInt.dflt))∧l.getD j tInt.dflt=l.getD i tInt.dflt:=by
   intro i
   induction i with
   | zero=>intro h;exact⟨0,⟨h,.inl rfl⟩,rfl⟩
   | succ i ih =>
    intro h
    by_cases hh:l.getD (i+1) tInt.dflt=l.getD i tInt.dflt
    ·obtain⟨j,h1,h2⟩:=ih (by omega)
     exact⟨j,h1,h2.trans hh.symm⟩
    ·exact⟨i+1,⟨h,.inr hh⟩,rfl⟩
  obtain⟨j,h1,h2⟩:=key i hi
  exact⟨j,h1,by rw [h2,getD_at hi,he]⟩
theorem qky {l:List Int}(h:l.Pairwise (·≤·)):(compL l).Pairwise (·<·):=by
 rw [qit,List.pairwise_map]
 have hle:∀ i j,i≤j→j<l.length→l.getD i tInt.dflt≤l.getD j tInt.dflt:=fun i j hij hj=>by
  rcases Nat.lt_or_ge i j with h'|h'
  ·rw [getD_at (by omega),getD_at hj];exact List.pairwise_iff_getElem.1 h _ _ _ _ h'
  ·have:i=j:=by omega
   subst this;exact Int.le_refl _
 refine (List.pairwise_lt_range.filter _).imp_of_mem fun {i j} hi hj hij => ?_
 simp only [List.mem_filter,List.mem_range,decide_eq_true_eq] at hi hj
 have h1:=hle i (j-1) (by omega) (by omega)
 have h2:=hle (j-1) j (by omega) hj.1
 have h3:=hj.2.resolve_left (by omega)
 omega
theorem qmj {vars p s:List Int}{l:List Eff}(hs:StateOk vars s):(∀ e∈l,EffOk vars e)→StateOk vars (effsP p s l):=by
 refine qaC (P:=fun l=>(∀ e∈l,EffOk vars e)→StateOk vars (effsP p s l)) (fun _=>hs) ?_ l
 intro l e ih h
 have h1:=ih fun x hx=>h x (by simp [hx])
 rw [qbg]
 split
 ·obtain⟨a,b,c,d⟩:=qaQ (h e (by simp))
  exact qcG h1 a c d
 ·exact h1
set_option maxRecDepth 8000 in
set_option maxHeartbeats 4000000 in
theorem qhi {w0:World}{a b c d vp vf:Value}{vs:List OpV}{t:TTask}{L:List Int}{op:Nat}{fro:Int}(ht:RTask w0 a b c d vs t) (hp:RS tInt w0 vp L) (hf:RS tInt w0 vf (frL t L op))
  (hg:GoodT t) (hL:InV t.vars L) (ho:op<t.ops.length) (h0:0≤fro) (h1:fro<cntL t.vars L) (hB:cntL t.vars L≤4096) (hB2:cntL t.vars (frL t L op)≤4096) :
  Calls Tryz.prog 116 #[.agg #[a,b,c,d],.int .i64 op,vp,vf,.int .i64 fro] w0 fun e w'=>∃ s,e=.returned s∧Sat w0 w' [OS tInt 3 s (tgtL t L fro op)]:=by
 have ht':=ht
 obtain⟨ha,hb,hc,hd⟩:=ht
 have hrs:=hd.rs
 have hdl:=hd.len
 have hla:=ha.big
 have hll:=hrs.big
 have hvl:=hg.vars
 have hop:ROp w0 (eget tOp vs op) (opT t op):=hd.at_ op ho
 have hone:=hop.one
 obtain⟨es,hes⟩:=hop.effs
 have hers:=hes.rs
 have hel:=hes.len
 have heb:=hers.big
 have hpr:=hop.pre
 have hgo:OpOk t.vars (opT t op):=hg.op op ho
 have he64:=hgo.effs
 have hpl:=qaK hgo.pre
 have hfv:InV t.vars (frL t L op):=qc2 _ _ _
 obtain⟨hs1,hi1⟩:=qg4 hg hL h0 h1
 have hs2:=qnv (op:=op) hg hL ho h0 h1
 have hw:=Sat.start w0
 refine qaf (args:=[.agg #[a,b,c,d],.int .i64 op,vp,vf,.int .i64 fro]) mixed Tryz.func116 rfl (by kernel_rfl) (Nat.le_of_ble_eq_true rfl) ?_
 refine qbU ?_
 refine qaF ?_
 refine qdI ?_
 clear hw
 intro pt w hw
 repeat (first|refine qac ?_|(refine qaa ?_;clear hw;intro p w hw)|(refine qae ?_;clear hw;intro w hw)|(refine qab ?_;clear hw;intro s w hw))
 obtain⟨po,hpo⟩:∃ po,po=p:=⟨p,rfl⟩
 subst hpo
 obtain⟨sv,hsv⟩:∃ sv,sv=s:=⟨s,rfl⟩
 subst hsv
 refine qah rfl (qgd (s:=sv) (L:=L) (st:=zerosL t.vars.length) ht' hp hw hg.pos hL.mem (qbF _) h0 (by omega)) ?_
 clear hw
 rintro _ w ⟨rfl,hw⟩
 refine⟨_,rfl,?_⟩
 repeat (first|refine qac ?_|(refine qaa ?_;clear hw;intro p w hw)|(refine qae ?_;clear hw;intro w hw)|(refine qab ?_;clear hw;intro s w hw))
 refine qak [10,14,39,40,41,42,43,44,45,46,47,48,49,50,51,52,53,54,55,56,57,58,59,60,61] (G:=Nat) (fun k=>[(39,.int .i64 k)]) (fun k w=>k≤(opT t op).pre.length∧PreIn L (st1 t L fro) ((opT t op).pre.take k)∧Sat w0 w [OS tInt 3 sv (preS L (st1 t L fro) ((opT t op).pre.take k)),Box po 44 (tOp.enc (eget tOp vs op)),Box pt 26 [a,b,c,d]]) (fun k=>(opT t op).pre.length-k) 0 (fun _=>rfl) ⟨rfl,trivial⟩ ⟨Nat.zero_le _,fun x hx=>by simp at hx,hw⟩ ?_
 clear hw
 rintro σ k w ⟨hk,hpi,hw⟩
 repeat (first|refine qac ?_|(refine qaa ?_;clear hw;intro p w hw)|(refine qae ?_;clear hw;intro w hw)|(refine qab ?_;clear hw;intro s w hw))
 refine go_if (fun h2 => ?_) (fun h2 => ?_)
 ·have hkl:k<(opT t op).pre.length:=by omega
  have hsn:=qb4 L (st1 t L fro) ((opT t op).pre.take k) ((opT t op).pre.getD k tFact.dflt)
  rw [←qaj tFact.dflt hkl] at hsn
  have hfx:=(opFacts hg ho).1 _ (qal tFact.dflt hkl)
  have hln:=qi1 L (st1 t L fro) ((opT t op).pre.take k)
  have hs1l:=hs1.1
  obtain⟨f1,f2,f3,f4⟩:=hfx
  repeat (first|refine qac ?_|(refine qaa ?_;clear hw;intro p w hw)|(refine qae ?_;clear hw;intro w hw)|(refine qab ?_;clear hw;intro s w hw))
  refine qah rfl (qaI (hp.at hw)) ?_
  rintro _ w' ⟨rfl,hk'⟩
  replace hw:=hw.call0 hk'
  clear hk'
  by_cases hm:((opT t op).pre.getD k tFact.dflt).var∈L
  ·have hsame:(preS L (st1 t L fro) ((opT t op).pre.take k)).getD ((opT t op).pre.getD k tFact.dflt).var.toNat tInt.dflt=sg (st1 t L fro) ((opT t op).pre.getD k tFact.dflt).var :=
    qfo f1 (fun x hx=>(opFacts hg ho).1 x (List.mem_of_mem_take hx)) fun x _ hx e=>hx (e ▸ hm)
   rw [decide_eq_true hm]
   refine⟨_,rfl,?_⟩
   repeat (first|refine qac ?_|(refine qaa ?_;clear hw;intro p w hw)|(refine qae ?_;clear hw;intro w hw)|(refine qab ?_;clear hw;intro s w hw))
   refine go_if (fun h3 => ?_) (fun h3 => ?_)
   ·repeat (first|refine qac ?_|(refine qaa ?_;clear hw;intro p w hw)|(refine qae ?_;clear hw;intro w hw)|(refine qab ?_;clear hw;intro s w hw))
    refine qai (v:=.slice none 0 0) rfl rfl ⟨_,rfl,?_⟩
    rw [qmU hg hL h0 h1 fun h=>h3 (by rw [hsame];exact h _ (qal tFact.dflt hkl) hm)]
    exact hw.tail.tail.tail.tail.nil
   ·repeat (first|refine qac ?_|(refine qaa ?_;clear hw;intro p w hw)|(refine qae ?_;clear hw;intro w hw)|(refine qab ?_;clear hw;intro s w hw))
    refine⟨k+1,⟨rfl,trivial⟩,agr,⟨by omega,?_,?_⟩,by omega⟩
    ·rw [qaj tFact.dflt hkl]
     intro x hx hxp
     rcases List.mem_append.1 hx with hx|hx
     ·exact hpi x hx hxp
     ·rw [List.mem_singleton.1 hx,←hsame];omega
    ·rw [hsn,if_pos hm];exact hw.tail
  ·rw [decide_eq_false hm]
   refine⟨_,rfl,?_⟩
   repeat (first|refine qac ?_|(refine qaa ?_;clear hw;intro p w hw)|(refine qae ?_;clear hw;intro w hw)|(refine qab ?_;clear hw;intro s w hw))
   refine⟨k+1,⟨rfl,trivial⟩,agr,⟨by omega,?_,?_⟩,by omega⟩
   ·rw [qaj tFact.dflt hkl]
    intro x hx hxp
    rcases List.mem_append.1 hx with hx|hx
    ·exact hpi x hx hxp
    ·rw [List.mem_singleton.1 hx] at hxp;exact absurd hxp hm
   ·rw [hsn,if_neg hm];exact hw.tail
 ·rw [List.take_of_length_le (by omega)] at hpi hw
  have hfin:=fun b=>qow (b:=b) hg hL ho h0 h1 hpi
  repeat (first|refine qac ?_|(refine qaa ?_;clear hw;intro p w hw)|(refine qae ?_;clear hw;intro w hw)|(refine qab ?_;clear hw;intro s w hw))
  refine qah rfl (qdC (ht'.at hw) (hf.at hw) hg hfv.mem) ?_
  rintro _ w' ⟨rfl,hk'⟩
  replace hw:=hw.call0 hk'
  clear hk'
  rw [if_pos hB2]
  refine⟨_,rfl,?_⟩
  repeat (first|refine qac ?_|(refine qaa ?_;clear hw;intro p w hw)|(refine qae ?_;clear hw;intro w hw)|(refine qab ?_;clear hw;intro s w hw))
  obtain⟨N,hN⟩:∃ N,N=cntL t.vars (frL t L op):=⟨_,rfl⟩
  have hN1:=qfJ hg.pos hfv.mem
  rw [←hN] at hfin hN1 hB2 ⊢
  refine qf5 [17,18,19,21,69,70,71,72,73,74,75,76,77,78,79,80,81,82,83,84,85,86,87,88,89,90,91,92,93,94,95,96,97,98,99,100,101,102,103,104,105,106,107,108,109,110] (G:=Nat) (H:=Value) (I:=List Int) (M:=List Int) (fun k so _ _=>[(69,.int .i64 k),(17,so)]) (fun k so xs S w=>k≤N∧xs.length=k∧(∀ b,b∈xs↔OutOf t L op fro k b)∧StateOk t.vars S∧(∀ v,0≤v→v∉frL t L op→sg S v=sg (st2 t L op fro) v)∧Sat w0 w [OS tInt 3 so xs,OS tInt 3 sv S,Box po 44 (tOp.enc (eget tOp vs op)),Box pt 26 [a,b,c,d]]) (fun k _ _ _=>N.toNat-k) 0 (.slice none 0 0) [] (st2 t L op fro) (fun _ _ _ _=>rfl) ⟨rfl,rfl,trivial⟩ ⟨by omega,rfl,fun b=>⟨fun h=>by simp at h,fun⟨S,hS,_,hlt,_⟩=>absurd (qbB hS hfv.mem).1 (by omega)⟩,hs2,fun _ _ _=>rfl,hw.nil⟩ ?_
  clear hw
  rintro σ k so xs S w ⟨hk,hxl,hmem,hS,hag,hw⟩
  repeat (first|refine qac ?_|(refine qaa ?_;clear hw;intro p w hw)|(refine qae ?_;clear hw;intro w hw)|(refine qab ?_;clear hw;intro s w hw))
  refine go_if (fun h3 => ?_) (fun h3 => ?_)
  ·have hk0:(0:Int)≤k:=by omega
   have hkN:(k:Int)<cntL t.vars (frL t L op):=by omega
   have hq:=qcc (s:=S) hg.pos hfv hS.1 hk0 hkN
   have hSo:=qfK (s:=S) hg.pos hfv hk0 hkN hS.1 fun v hv hv' _=>hS.rng hv hv'
   have hag':∀ v,0≤v→v∉frL t L op→sg (putS t.vars (frL t L op) S k) v=sg (st2 t L op fro) v:=fun v hv hn=>by rw [hq.2.2 v hv hn,hag v hv hn]
   have hos:=fun b=>qmV (b:=b) hg hL ho hSo hag' hq.1
   repeat (first|refine qac ?_|(refine qaa ?_;clear hw;intro p w hw)|(refine qae ?_;clear hw;intro w hw)|(refine qab ?_;clear hw;intro s w hw))
   refine qah rfl (qgd (s:=sv) (L:=frL t L op) (st:=S) ht' hf hw.swap hg.pos hfv.mem hS.1 hk0 (by omega)) ?_
   clear hw
   rintro _ w ⟨rfl,hw⟩
   refine⟨_,rfl,?_⟩
   obtain⟨S',hS'⟩:∃ S',S'=putS t.vars (frL t L op) S k:=⟨_,rfl⟩
   rw [←hS'] at hw hSo hag' hos
   have hSl:=hSo.1
   clear hS hag hq
   repeat (first|refine qac ?_|(refine qaa ?_;clear hw;intro p w hw)|(refine qae ?_;clear hw;intro w hw)|(refine qab ?_;clear hw;intro s w hw))
   refine qah rfl (qaB (a:=sv) (xs:=S') (rsO hw) (by omega)) ?_
   rintro _ w' ⟨sn,rfl,hk'⟩
   replace hw:=hw.call1 hk'
   clear hk'
   refine⟨_,rfl,?_⟩
   repeat (first|refine qac ?_|(refine qaa ?_;clear hw;intro p w hw)|(refine qae ?_;clear hw;intro w hw)|(refine qab ?_;clear hw;intro s w hw))
   refine qak [21,82,83,84,85,86,87,88,89,90,91,92,93,94,95,96,97,98,99,100,101,102] (G:=Nat) (fun j=>[(82,.int .i64 j)]) (fun j w=>j≤(opT t op).effs.length∧Sat w0 w [OS tInt 3 sn (effsP L S' ((opT t op).effs.take j)),OS tInt 3 sv S',OS tInt 3 so xs,Box po 44 (tOp.enc (eget tOp vs op)),Box pt 26 [a,b,c,d]]) (fun j=>(opT t op).effs.length-j) 0 (fun _=>rfl) ⟨rfl,trivial⟩ ⟨Nat.zero_le _,hw⟩ ?_
   clear hw
   rintro σ1 j w ⟨hj,hw⟩
   repeat (first|refine qac ?_|(refine qaa ?_;clear hw;intro p w hw)|(refine qae ?_;clear hw;intro w hw)|(refine qab ?_;clear hw;intro s w hw))
   refine go_if (fun h4 => ?_) (fun h4 => ?_)
   ·have hjl:j<(opT t op).effs.length:=by omega
    have hek:=hes.at_ j hjl
    have hwh:=hek.when
    have hone2:=hek.one
    have hv1:=hek.var
    have hv2:=hek.val
    obtain⟨r1,r2,r3,r4⟩:=qaQ (hgo.eff j hjl)
    have hsn:=qbg L S' ((opT t op).effs.take j) ((opT t op).effs.getD j dEff)
    rw [←qaj dEff hjl] at hsn
    have hln:=qc3 L S' ((opT t op).effs.take j)
    repeat (first|refine qac ?_|(refine qaa ?_;clear hw;intro p w hw)|(refine qae ?_;clear hw;intro w hw)|(refine qab ?_;clear hw;intro s w hw))
    refine qah rfl (qaI (hp.at hw)) ?_
    rintro _ w' ⟨rfl,hk'⟩
    replace hw:=hw.call0 hk'
    clear hk'
    by_cases hm:(eget tEff es j).var∈L
    ·rw [decide_eq_true hm]
     refine⟨_,rfl,?_⟩
     repeat (first|refine qac ?_|(refine qaa ?_;clear hw;intro p w hw)|(refine qae ?_;clear hw;intro w hw)|(refine qab ?_;clear hw;intro s w hw))
     refine qah rfl (qeU (b:=sv) (s:=S') (hwh.at hw) (rsO hw)) ?_
     rintro _ w' ⟨⟨r,rfl,hr⟩,hk'⟩
     replace hw:=hw.call0 hk'
     clear hk'
     refine⟨_,rfl,?_⟩
     cases r with
     | false =>
      repeat (first|refine qac ?_|(refine qaa ?_;clear hw;intro p w hw)|(refine qae ?_;clear hw;intro w hw)|(refine qab ?_;clear hw;intro s w hw))
      refine⟨j+1,⟨rfl,trivial⟩,agr,⟨by omega,?_⟩,by omega⟩
      rw [hsn,if_neg fun h=>by have:=hr.2 h.2;cases this]
      exact hw.tail
     | true =>
      repeat (first|refine qac ?_|(refine qaa ?_;clear hw;intro p w hw)|(refine qae ?_;clear hw;intro w hw)|(refine qab ?_;clear hw;intro s w hw))
      refine⟨j+1,⟨rfl,trivial⟩,agr,⟨by omega,?_⟩,by omega⟩
      rw [hsn,if_pos ⟨hv1 ▸ hm,hr.1 rfl⟩,←hv1,←hv2]
      exact hw.tail
    ·rw [decide_eq_false hm]
     refine⟨_,rfl,?_⟩
     repeat (first|refine qac ?_|(refine qaa ?_;clear hw;intro p w hw)|(refine qae ?_;clear hw;intro w hw)|(refine qab ?_;clear hw;intro s w hw))
     refine⟨j+1,⟨rfl,trivial⟩,agr,⟨by omega,?_⟩,by omega⟩
     rw [hsn,if_neg fun h=>hm (hv1 ▸ h.1)]
     exact hw.tail
   ·rw [List.take_of_length_le (by omega)] at hw
    have hok:=qmj (p:=L) hSo hgo.mem
    repeat (first|refine qac ?_|(refine qaa ?_;clear hw;intro p w hw)|(refine qae ?_;clear hw;intro w hw)|(refine qab ?_;clear hw;intro s w hw))
    refine qah rfl (qe1 (sv:=sn) (s:=effsP L S' (opT t op).effs) (ht'.at hw) (hp.at hw) (rsO hw) hg hL.mem hok (by omega)) ?_
    rintro _ w' ⟨rfl,hk'⟩
    replace hw:=hw.call0 hk'
    clear hk'
    refine⟨_,rfl,?_⟩
    repeat (first|refine qac ?_|(refine qaa ?_;clear hw;intro p w hw)|(refine qae ?_;clear hw;intro w hw)|(refine qab ?_;clear hw;intro s w hw))
    refine⟨k+1,_,xs++[idxL t.vars L (effsP L S' (opT t op).effs)],S',⟨rfl,rfl,trivial⟩,agr,⟨by omega,by simp [hxl],fun b => ?_,hSo,hag',?_⟩,by omega⟩
    ·rw [List.mem_append,List.mem_singleton,hmem b,Int.natCast_add,Int.natCast_one,hos b]
    ·exact hw.tail.tail.swap
  ·have hkN:(k:Int)=N:=by omega
   rw [hkN] at hmem
   repeat (first|refine qac ?_|(refine qaa ?_;clear hw;intro p w hw)|(refine qae ?_;clear hw;intro w hw)|(refine qab ?_;clear hw;intro s w hw))
   refine qah rfl (qeZ (s:=so) hw (by omega)) ?_
   clear hw
   rintro _ w ⟨rfl,hw⟩
   refine⟨_,rfl,?_⟩
   repeat (first|refine qac ?_|(refine qaa ?_;clear hw;intro p w hw)|(refine qae ?_;clear hw;intro w hw)|(refine qab ?_;clear hw;intro s w hw))
   refine qah rfl (qhl (s:=so) hw (by rw [qeF];omega)) ?_
   clear hw
   rintro _ w ⟨s',rfl,hw⟩
   refine⟨_,rfl,?_⟩
   repeat (first|refine qac ?_|(refine qaa ?_;clear hw;intro p w hw)|(refine qae ?_;clear hw;intro w hw)|(refine qab ?_;clear hw;intro s w hw))
   refine qai (v:=s') rfl rfl ⟨s',rfl,?_⟩
   have e:compL (sortL xs)=tgtL t L fro op:=by
    refine qfL (qky (qiS xs)) fun u => ?_
    rw [qkx,qgZ,hmem u,hfin u]
    constructor
    ·intro h
     have h':=(hfin u).2 h
     exact⟨qox hg hL ho h',h⟩
    ·exact fun h=>h.2
   rw [e] at hw
   exact hw.only
end Go.Proofs.YtjdlohdcdmhigaaGreatDoor
