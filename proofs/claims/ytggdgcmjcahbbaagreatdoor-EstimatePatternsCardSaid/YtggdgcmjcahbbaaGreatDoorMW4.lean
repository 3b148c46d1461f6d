/-
  Several texts as one: WBack, WPut, WProj, WProj2.
-/
import Derived.Test.YtggdgcmjcahbbaaGreatDoorMW2
import Derived.Test.YtggdgcmjcahbbaaGreatDoorMSlB
import Derived.Test.YtggdgcmjcahbbaaGreatDoorMTA
import Derived.Test.YtggdgcmjcahbbaaGreatDoorMW3
set_option linter.unusedSimpArgs false
set_option linter.unusedVariables false
/-
  The iterator of 'slices.Backward' over ints: its contract for whatever loop's body.
-/
namespace Go.Proofs.YtggdgcmjcahbbaaGreatDoor
open Go.Sl Go
attribute [local irreducible] vc opsW opsD opV opW PureV ReadV Thn Blk
def revP (L:List Int) (k:Nat):List (Int × Int):=(List.range k).map fun (j:Nat)=>(((L.length:Int)-1-(j:Int)),L.getD (L.length-1-j) tInt.dflt)
theorem qlN (L:List Int) (k:Nat):revP L (k+1)=revP L k++[(((L.length:Int)-1-(k:Int)),L.getD (L.length-1-k) tInt.dflt)]:=by simp [revP,List.range_succ]
def KpB (pb:Addr) (a:Value) (L:List Int) (W W':World):Prop:=(W.cell? pb=some a→W'.cell? pb=some a)∧(RS tInt W a L→RS tInt W' a L)
def encB {Q:Int × Int→Prop}(x:{ p:Int × Int // Q p }):Array Value:=#[.int .i64 x.1.1,.int .i64 x.1.2]
set_option maxRecDepth 8000 in
theorem qfs {n:Nat}{w0:World}{pb:Addr}{a:Value}{L:List Int}{Q:Int × Int→Prop}(hQ:∀ i:Nat,i<L.length→Q ((i:Int),L.getD i tInt.dflt)) (hc:w0.cell? pb=some a) (ha:RS tInt w0 a L) :
  SeqStopsK (α:={ p:Int × Int // Q p }) Fence.wide n Tryz.prog 98 #[.pointer (some pb)] encB (KpB pb a L) (fun xs=>xs.map (·.1)=revP L L.length) (fun _=>True) L.length w0:=by
 intro l J Jx W hb hJ hJx hY h0
 refine (callsIn_wide (n:=n)).2 ?_
 have hc1:W.cell? pb=some a:=by
  have hlt:pb.block<w0.heap.size:=by
   rcases Nat.lt_or_ge pb.block w0.heap.size with h|h
   ·exact h
   ·simp [World.cell?,Array.getElem?_eq_none h] at hc
  rw [hb.cell hlt];exact hc
 have ha1:RS tInt W a L:=⟨ha.1.below hb,ha.2⟩
 have hla:=ha.big
 refine qab (args:=[.func (.yield l) #[] #[],.pointer (some pb)]) mixed Tryz.func98 rfl (by kernel_rfl) (Nat.le_of_ble_eq_true rfl) ?_
 repeat refine qaa ?_
 refine qaN rfl (qbK rfl hc1) ?_
 repeat refine qaa ?_
 refine qao [3,7,8,9,10,11,12,13,14,15,16,17,18] (G:=Nat) (H:=List { p:Int × Int // Q p }) (fun k _=>[(3,.int .i64 ((L.length:Int)-1-(k:Int)))]) (fun k pre w=>k≤L.length∧pre.map (·.1)=revP L k∧J pre w∧w.cell? pb=some a∧RS tInt w a L) (fun k _=>L.length-k) 0 [] (fun _ _=>rfl) ⟨by have e0:((L.length:Int)-1-((0:Nat):Int))=(L.length:Int)-1:=(by omega);rw [e0];rfl,trivial⟩ ⟨Nat.zero_le _,rfl,h0,hc1,ha1⟩ ?_
 clear hc1 ha1 h0
 rintro σ k pre w ⟨hk,hpre,hj,hc1,ha1⟩
 repeat refine qaa ?_
 refine go_if (fun h1 => ?_) (fun h1 => ?_)
 ·have hkl:k<L.length:=by omega
  have hpl:pre.length=k:=by have:=congrArg List.length hpre;simpa [revP] using this
  have e1:((L.length:Int)-1-(k:Int)).toNat=L.length-1-k:=by omega
  have e2:((L.length-1-k:Nat):Int)=(L.length:Int)-1-(k:Int):=by omega
  have hx:=hQ (L.length-1-k) (by omega)
  rw [e2] at hx
  have hy:=hY pre ⟨_,hx⟩ w hj (by omega)
  repeat refine qaa ?_
  refine qaN rfl (qbK rfl hc1) ?_
  repeat refine qaa ?_
  rw [e1]
  refine qnB (l:=l) rfl rfl hy ?_
  rintro _ W' (⟨rfl,hj',hk1,hk2⟩|⟨rfl,hjx⟩)
  ·refine⟨_,rfl,?_⟩
   repeat refine qaa ?_
   refine⟨k+1,pre++[⟨_,hx⟩],⟨?_,trivial⟩,agr,⟨by omega,?_,hj',hk1 hc1,hk2 ha1⟩,by omega⟩
   ·show Value.int .i64 _=_
    congr 1;omega
   ·rw [List.map_append,hpre,qlN];rfl
  ·refine⟨_,rfl,?_⟩
   repeat refine qaa ?_
   exact qjd rfl ⟨⟨_,rfl⟩,.inr ⟨_,trivial,hjx⟩⟩
 ·have hke:k=L.length:=by omega
  subst hke
  repeat refine qaa ?_
  exact qaA rfl ⟨⟨_,rfl⟩,.inl ⟨pre,hpre,hj⟩⟩
end Go.Proofs.YtggdgcmjcahbbaaGreatDoor
/-
  Contract of 'project.put': a range over 'slices.Backward'.
-/
namespace Go.Proofs.YtggdgcmjcahbbaaGreatDoor
open Go.Sl Go
attribute [local irreducible] vc opsW opsD opV opW PureV ReadV Thn Blk
def sndB {Q:Int × Int→Prop}(x:{ p:Int × Int // Q p }):Int:=x.1.2
theorem qof (L:List Int):(revP L L.length).map (·.2)=L.reverse:=by
 apply List.ext_getElem (by simp [revP])
 intro i h1 h2
 have h3:i<L.length:=by simpa using h2
 simp only [revP,List.map_map,List.getElem_map,List.getElem_range,Function.comp_apply,List.getElem_reverse]
 rw [qak (by omega)]
theorem qg5 {w0:World}{a:Value} :
  Calls Tryz.prog 77 #[a] w0 fun e w'=>∃ pb,e=.returned (.func (.func 98) #[] #[.pointer (some pb)])∧Sat w0 w' [Box pb 22 a.cells.toList]:=by
 have hw:=Sat.start w0
 refine qab (args:=[a]) mixed Tryz.func77 rfl (by kernel_rfl) (Nat.le_of_ble_eq_true rfl) ?_
 repeat (first|refine qaa ?_|(refine qaf ?_;clear hw;intro p w hw))
 exact qae (v:=.func (.func 98) #[] #[.pointer (some p)]) rfl rfl ⟨p,rfl,hw⟩
set_option maxRecDepth 8000 in
set_option maxHeartbeats 2000000 in
theorem qg6 {w0 w:World}{Γ:List HP}{a b c d va s:Value}{vs:List OpV}{t:TTask}{L st:List Int}{n:Int}(ht:RTask w0 a b c d vs t) (hL:RS tInt w0 va L) (hw:Sat w0 w (OS tInt 3 s st::Γ))
  (hp:∀ x∈t.vars,1≤x) (hv:∀ v∈L,0≤v∧v<t.vars.length) (hst:st.length=t.vars.length) (hn:0≤n) (hn2:n≤1099511627776) :
  Calls Tryz.prog 51 #[.agg #[a,b,c,d],va,s,.int .i64 n] w fun e w'=>e=.returned (.tuple #[])∧Sat w0 w' (OS tInt 3 s (putS t.vars L st n)::Γ):=by
 obtain⟨ha,hb,hc,hd⟩:=ht
 have hla:=ha.big
 have hlL:=hL.big
 have hsc:s.cells.toList=[s]:=(hw.rs 0 rfl).cells1
 have hvc:va.cells.toList=[va]:=hL.cells1
 refine (callsIn_wide (n:=3)).1 (callsIn_of_wp_marks (F:=Fence.wide) (n:=3) Tryz.func51 rfl trivial ?_)
 refine qfQ (ro:=none) (n:=31) mixed (by kernel_rfl) (by simp only [Array.size_append,Array.size_replicate];rfl) rfl ?_
 rw [show (#[.agg #[a,b,c,d],va,s,.int .i64 n]:Array Value)=[.agg #[a,b,c,d],va,s,.int .i64 n].toArray from rfl,qph]
 refine qa6 ?_
 refine qe9 ?_
 clear hw
 intro pt w hw
 refine qe9 ?_
 clear hw
 intro ps w hw
 refine qe9 ?_
 clear hw
 intro pn w hw
 refine qdG ?_
 refine qbN ?_
 intro a1 hs1 hd1 hf1
 refine qfQ (ro:=none) (n:=31) mixed (by kernel_rfl) hs1 hd1 ?_
 rw [hf1]
 repeat refine qaa ?_
 refine qad rfl (qg5 (a:=va)) ?_
 rintro _ w' ⟨pb,rfl,hk'⟩
 replace hw:=hw.call1 hk'
 clear hk'
 rw [hvc,hsc] at hw
 refine⟨_,rfl,?_⟩
 repeat refine qaa ?_
 intro a2 hs2 hd2 hf2
 clear hf1 hd1 hs1
 refine wpIn_block ?_
 have hdx:a2.defers=[]:=hd2
 obtain⟨W0,hW0⟩:∃ W0,W0=w':=⟨_,rfl⟩
 subst hW0
 have hB:w0.heap.size≤W0.heap.size:=hw.below.size
 have hcb:W0.cell? pb=some va:=qcg (i:=0) hw rfl rfl
 have e9:∀ x:{ p:Int × Int // 0≤p.2∧p.2<t.vars.length },fr (({ tmps:=(#[12,13].zip (encB x)).foldl (fun t (p,v)=>t.setIfInBounds p v) a2.tmps,defers:=[] }:Act).put (some 9) (.int .i64 x.1.2))=upd (upd (upd (fr a2) 12 (.int .i64 x.1.1)) 13 (.int .i64 x.1.2)) 9 (.int .i64 x.1.2):=fun x=>by
  rw [qes (fun t e=>by cases e;rw [show (#[12,13].zip (encB x))=#[12,13].zip #[.int .i64 x.1.1,.int .i64 x.1.2] from rfl,qgx,hs2];decide)]
  rw [show (#[12,13].zip (encB x))=#[12,13].zip #[.int .i64 x.1.1,.int .i64 x.1.2] from rfl,qoJ (by omega) (by omega)]
  have:(⟨a2.tmps,[]⟩:Act)=a2:=by rw [←hdx]
  rw [this];rfl
 refine wpIn_rangeFunc_ownF (F:=Fence.wide) (n:=3) (α:={ p:Int × Int // 0≤p.2∧p.2<t.vars.length }) rfl (by decide) (gf:=98) (lb:=#[.pointer (some pb)]) (by rw [←qbx,hf2];rfl) trivial (fun args w=>CallT.run inferInstance args w)
  (qfs (n:=2) (Q:=fun p=>0≤p.2∧p.2<t.vars.length) (fun i hi=>hv _ (qah tInt.dflt hi)) hcb (hL.at hw))
  (fun h k=>⟨fun e=>k.1 (h.1 e),fun e=>k.2 (h.2 e)⟩) (fun W l o o' _ hl ho _=>⟨qeO hl ho,qlU hl ho⟩) (Go.RowKit.Below.refl _ _) (fun _=>rfl)
  (fun pre W=>W0.heap.size≤W.heap.size∧SatC W0.heap.size w0 W (Box pb 22 [va]::Box pn 3 [.int .i64 (putR t.vars (pre.map sndB) st n).2]::Box ps 22 [s]::Box pt 26 [a,b,c,d]::OS tInt 3 s (putR t.vars (pre.map sndB) st n).1::Γ))
  (fun _ _ _=>False) (SatC.own (Γ:=fun pre=>_) hB) (fun _=>fun _ _ _ _ h=>h.elim) ⟨Nat.le_refl _,hw.toC⟩
  (fun x=>({ tmps:=(#[12,13].zip (encB x)).foldl (fun t (p,v)=>t.setIfInBounds p v) a2.tmps,defers:=[] }:Act).put (some 9) (.int .i64 x.1.2)) ?assign ?body ?done ?stop
 case assign =>
  intro l x W K hK
  refine qhF (ro:=some l) mixed ?_ rfl ?_
  ·rw [show (#[12,13].zip (encB x))=#[12,13].zip #[.int .i64 x.1.1,.int .i64 x.1.2] from rfl,qgx,hs2];decide
  ·rw [show (#[12,13].zip (encB x))=#[12,13].zip #[.int .i64 x.1.1,.int .i64 x.1.2] from rfl,qoJ (by omega) (by omega)]
   exact hK
 case body =>
  rintro l pre x W ⟨hsz,hC⟩ _
  obtain⟨⟨xi,xv⟩,hx0,hx1⟩:=x
  simp only at hx0 hx1
  have hdom:=hp _ (qah tInt.dflt (show xv.toNat<t.vars.length by omega))
  have hln:=qjo t.vars (pre.map sndB) st n
  have hbd:=qo9 (s:=st) (vs:=pre.map sndB) hp hn fun v hv=>by
   obtain⟨y,_,rfl⟩:=List.mem_map.1 hv
   exact y.2
  have hsn:=qdi t.vars (pre.map sndB) st n xv
  obtain⟨S,hS⟩:∃ S,S=putR t.vars (pre.map sndB) st n:=⟨_,rfl⟩
  rw [←hS] at hC hln hbd hsn
  obtain⟨S1,S2⟩:=S
  simp only at hC hln hbd hsn
  refine wpIn_mono (qbj (ro:=some l) (n:=31) mixed _ (by kernel_rfl) (fun e ρ W'=>e=.normal∧Kept W W'∧SatC W0.heap.size w0 W' (Box pb 22 [va]::Box pn 3 [.int .i64 (putF t.vars (S1,S2) xv).2]::Box ps 22 [s]::Box pt 26 [a,b,c,d]::OS tInt 3 s (putF t.vars (S1,S2) xv).1::Γ)) _ _ ?_ rfl ?_) ?_
  ·rw [size_put,show (#[12,13].zip (encB _))=#[12,13].zip #[.int .i64 xi,.int .i64 xv] from rfl,qgx,hs2]
  ·rw [e9,hf2]
   show vc _ _ _ (upd (upd (upd _ 12 (.int .i64 xi)) 13 (.int .i64 xv)) 9 (.int .i64 xv)) _
   clear hw
   have hw:=hC.open hB
   refine qc4 ?_
   refine qdS ?_
   refine qjy hw (by decide +kernel) ?_
   clear hw
   intro w1 hk1 hw
   repeat refine qaa ?_
   refine qnA (T:=tInt) (s:=s) (j:=xv.toNat) (v:=.int .i64 (S2.tmod (t.vars.getD xv.toNat tInt.dflt))) (x':=S2.tmod (t.vars.getD xv.toNat tInt.dflt)) rfl rfl rfl hw inferInstance (by omega) rfl ?_
   clear hw
   intro w2 hw hk2
   repeat refine qaa ?_
   refine qjy hw (by decide +kernel) ?_
   clear hw
   intro w3 hk3 hw
   repeat refine qaa ?_
   refine qpd (k:=0) (p:=pn) (v:=.int .i64 (S2.tdiv (t.vars.getD xv.toNat tInt.dflt))) (by simp [Addr.add];rfl) rfl rfl hw inferInstance (by simp) ?_
   clear hw
   intro w4 hw hk4
   repeat refine qaa ?_
   have hkk:=((hk1.trans hk2).trans hk3).trans hk4
   exact⟨rfl,hkk,hw.close hkk.1⟩
  ·intro e a' W' hq
   obtain⟨_,_,rfl,hkk,hC'⟩:=hq
   have hw':=hC'.sat0
   refine⟨hkk.others,⟨fun _=>qcg (i:=0) hw' rfl rfl,fun _=>hL.at hw'⟩,by rw [hkk.1];exact hsz,?_⟩
   rw [List.map_append,List.map_singleton,qdi,←hS]
   exact hC'
 case done =>
  rintro D xs W hD hS ⟨hsz,hC⟩ hK
  refine⟨by simp,.inl ⟨_,_,rfl,run_takeDeferred hK,?_⟩⟩
  rw [hdx]
  have hI:=(SatC.own (Γ:=fun pre:List { p:Int × Int // 0≤p.2∧p.2<t.vars.length }=>(Box pb 22 [va]::Box pn 3 [.int .i64 (putR t.vars (pre.map sndB) st n).2]::Box ps 22 [s]::Box pt 26 [a,b,c,d]::OS tInt 3 s (putR t.vars (pre.map sndB) st n).1::Γ)) hB).putObj (o':=.deferred none) ⟨hsz,hC⟩ hD hK rfl
  have hw':=hI.2.sat0
  have hxs:xs.map sndB=L.reverse:=by
   have:=congrArg (List.map (·.2)) hS
   rw [qof,List.map_map] at this
   exact this
  rw [hxs] at hw'
  exact⟨.tuple #[],by simp [results,Tryz.f51],rfl,hw'.tail.tail.tail.tail⟩
 case stop =>
  rintro D c pre W _ _ hF _
  exact hF.elim
end Go.Proofs.YtggdgcmjcahbbaaGreatDoor
/-
  Contracts of 'project.check', 'count', 'number', 'has', 'outside'.
-/
namespace Go.Proofs.YtggdgcmjcahbbaaGreatDoor
open Go.Sl Go
attribute [local irreducible] vc opsW opsD opV opW PureV ReadV Thn Blk
instance (vars p:List Int):Decidable (PatOk vars p):=by unfold PatOk;infer_instance
noncomputable def chkP (t:TTask) (p:List Int):Int:=if checkT t≠0 then checkT t else if PatOk t.vars p then 0 else 2
set_option maxRecDepth 8000 in
set_option maxHeartbeats 2000000 in
theorem qi5 {w0:World}{a b c d va:Value}{vs:List OpV}{t:TTask}{L:List Int}(ht:RTask w0 a b c d vs t) (hp:RS tInt w0 va L) :
  Calls Tryz.prog 47 #[.agg #[a,b,c,d],va] w0 fun e w'=>e=.returned (errV (chkP t L))∧Sat w0 w' []:=by
 have ht':=ht
 obtain⟨ha,hb,hc,hd⟩:=ht
 have hla:=ha.big
 have hlp:=hp.big
 have hw:=Sat.start w0
 refine qab (args:=[.agg #[a,b,c,d],va]) mixed Tryz.func47 rfl (by kernel_rfl) (Nat.le_of_ble_eq_true rfl) ?_
 repeat (first|refine qaa ?_|(refine qaf ?_;clear hw;intro p w hw))
 obtain⟨pt,hpt⟩:∃ pt,pt=p:=⟨p,rfl⟩
 subst hpt
 refine qad rfl (qa5 (ht'.at hw)) ?_
 rintro _ w' ⟨rfl,hk'⟩
 replace hw:=hw.call0 hk'
 clear hk'
 refine⟨_,rfl,?_⟩
 by_cases hk:checkT t=0
 ·rw [qat hk]
  repeat refine qaa ?_
  refine qaj [4,6,7,15,16,17,18,19,20,21,22,23,24,25,26,27,28,29,30,31,32,33,34,35,36,37,38,39,40,41,42,43] (G:=Nat) (fun k=>[(15,.int .i64 k)]) (fun k w=>k≤L.length∧(∀ i,i<k→(0≤L.getD i tInt.dflt∧L.getD i tInt.dflt<t.vars.length)∧(0<i→L.getD (i-1) tInt.dflt<L.getD i tInt.dflt))∧Sat w0 w [Box pt 26 [a,b,c,d]]) (fun k=>L.length-k) 0 (fun _=>rfl) ⟨rfl,trivial⟩ ⟨Nat.zero_le _,fun i hi=>absurd hi (Nat.not_lt_zero _),hw⟩ ?_
  clear hw
  rintro σ k w ⟨hk1,hpre,hw⟩
  repeat refine qaa ?_
  refine go_if (fun h1 => ?_) (fun h1 => ?_)
  ·have hkl:k<L.length:=by omega
   have e1:((k:Int)-1).toNat=k-1:=by omega
   repeat refine qaa ?_
   refine go_if (fun h2 => ?_) (fun h2 => ?_)
   ·repeat refine qaa ?_
    refine qae (v:=errV 2) rfl (by rw [qan (by decide)];rfl) ⟨?_,hw.tail⟩
    rw [chkP,if_neg (by simp [hk]),if_neg]
    intro hpk
    have h3:=hpk k hkl
    rw [e1] at h2
    rcases h2 with (h2|h2)|⟨h2,h4⟩
    ·omega
    ·omega
    ·have:=h3.2 (by omega);omega
   ·rw [e1] at h2
    repeat refine qaa ?_
    refine⟨k+1,⟨rfl,trivial⟩,agr,⟨by omega,fun i hi => ?_,hw⟩,by omega⟩
    by_cases h:i=k
    ·subst h;exact⟨by omega,fun h0=>by omega⟩
    ·exact hpre i (by omega)
  ·repeat refine qaa ?_
   refine qae (v:=errV 0) rfl (by rw [qat rfl];rfl) ⟨?_,hw.tail⟩
   rw [chkP,if_neg (by simp [hk]),if_pos]
   intro i hi
   exact hpre i (by omega)
 ·rw [qan hk]
  repeat refine qaa ?_
  refine qae (v:=errV (checkT t)) rfl (by rw [qan hk];rfl) ⟨?_,hw.tail⟩
  rw [chkP,if_pos hk]
theorem qfb {vars L:List Int}(hd:∀ x∈vars,1≤x) (hL:∀ v∈L,0≤v∧v<vars.length) (k:Nat):cntL vars (L.take k)≤cntL vars L:=by
 have h1:valsL vars (L.take k)=(valsL vars L).take k:=by simp [valsL,List.map_take]
 rw [cntL,h1];exact qcx (qho hd hL) k
theorem qkI {vars L:List Int}{k:Nat}(hk:k<L.length):cntL vars (L.take (k+1))=cntL vars (L.take k)*sg vars (L.getD k tInt.dflt):=by
 rw [qal tInt.dflt hk,qez]
theorem qf1 {vars L s:List Int}{k:Nat}(hk:k<L.length):idxL vars (L.take (k+1)) s=idxL vars (L.take k) s*sg vars (L.getD k tInt.dflt)+sg s (L.getD k tInt.dflt):=by
 rw [qal tInt.dflt hk,qhp]
set_option maxRecDepth 8000 in
set_option maxHeartbeats 2000000 in
theorem qdR {w0:World}{a b c d va:Value}{vs:List OpV}{t:TTask}{L:List Int}(ht:RTask w0 a b c d vs t) (hp:RS tInt w0 va L) (hg:GoodT t) (hL:∀ v∈L,0≤v∧v<t.vars.length) :
  Calls Tryz.prog 48 #[.agg #[a,b,c,d],va] w0 fun e w'=>e=.returned (.tuple (if cntL t.vars L≤4096 then #[.int .i64 (cntL t.vars L),.bool true] else #[.int .i64 0,.bool false]))∧Sat w0 w' []:=by
 obtain⟨ha,hb,hc,hd⟩:=ht
 have hla:=ha.big
 have hlp:=hp.big
 have hw:=Sat.start w0
 refine qab (args:=[.agg #[a,b,c,d],va]) mixed Tryz.func48 rfl (by kernel_rfl) (Nat.le_of_ble_eq_true rfl) ?_
 repeat (first|refine qaa ?_|(refine qaf ?_;clear hw;intro p w hw))
 obtain⟨pt,hpt⟩:∃ pt,pt=p:=⟨p,rfl⟩
 subst hpt
 refine qao [4,5,6,8,11,12,13,14,15,16,17,18,19,20,21,22,23,24] (G:=Nat) (H:=Int) (fun k n=>[(11,.int .i64 k),(6,.int .i64 n)]) (fun k n w=>k≤L.length∧n=cntL t.vars (L.take k)∧n≤4096∧Sat w0 w [Box pt 26 [a,b,c,d]]) (fun k _=>L.length-k) 0 1 (fun _ _=>rfl) ⟨rfl,rfl,trivial⟩ ⟨Nat.zero_le _,rfl,by decide,hw⟩ ?_
 clear hw
 rintro σ k n w ⟨hk,hn,hnm,hw⟩
 repeat refine qaa ?_
 refine go_if (fun h1 => ?_) (fun h1 => ?_)
 ·have hkl:k<L.length:=by omega
  have hv:=hL _ (qah tInt.dflt hkl)
  have hdm:=hg.dom (L.getD k tInt.dflt).toNat (by omega)
  have hpos:1≤n:=by rw [hn];exact qeb hg.pos fun v hv=>hL v (List.mem_of_mem_take hv)
  have hS:cntL t.vars (L.take (k+1))=n*sg t.vars (L.getD k tInt.dflt):=by rw [qkI hkl,hn]
  have hle:=qfb hg.pos hL (k+1)
  simp only [sg] at hS
  have b0:0≤n*t.vars.getD (L.getD k tInt.dflt).toNat tInt.dflt:=Int.mul_nonneg (by omega) (by omega)
  have b1:n*t.vars.getD (L.getD k tInt.dflt).toNat tInt.dflt≤4096*64:=Int.mul_le_mul hnm (by omega) (by omega) (by omega)
  repeat refine qaa ?_
  refine go_if (fun h2 => ?_) (fun h2 => ?_)
  ·repeat refine qaa ?_
   refine qaq (v:=.int .i64 0) (v':=.bool false) rfl rfl rfl ⟨?_,hw.tail⟩
   rw [if_neg (by omega)]
  ·repeat refine qaa ?_
   exact⟨k+1,_,⟨rfl,rfl,trivial⟩,agr,⟨by omega,hS.symm,by omega,hw⟩,by omega⟩
 ·repeat refine qaa ?_
  refine qaq (v:=.int .i64 n) (v':=.bool true) rfl rfl rfl ⟨?_,hw.tail⟩
  rw [List.take_of_length_le (by omega)] at hn
  rw [if_pos (by omega),hn]
set_option maxRecDepth 8000 in
set_option maxHeartbeats 2000000 in
theorem qfo {w0:World}{a b c d va sv:Value}{vs:List OpV}{t:TTask}{L s:List Int}(ht:RTask w0 a b c d vs t) (hp:RS tInt w0 va L) (hs:RS tInt w0 sv s) (hg:GoodT t) (hL:∀ v∈L,0≤v∧v<t.vars.length) (hok:StateOk t.vars s) (hB:cntL t.vars L≤1099511627776) :
  Calls Tryz.prog 49 #[.agg #[a,b,c,d],va,sv] w0 fun e w'=>e=.returned (.int .i64 (idxL t.vars L s))∧Sat w0 w' []:=by
 obtain⟨ha,hb,hc,hd⟩:=ht
 have hla:=ha.big
 have hlp:=hp.big
 have hls:=hok.1
 have hw:=Sat.start w0
 refine qab (args:=[.agg #[a,b,c,d],va,sv]) mixed Tryz.func49 rfl (by kernel_rfl) (Nat.le_of_ble_eq_true rfl) ?_
 repeat (first|refine qaa ?_|(refine qaf ?_;clear hw;intro p w hw))
 obtain⟨pt,hpt⟩:∃ pt,pt=p:=⟨p,rfl⟩
 subst hpt
 refine qao [7,9,12,13,14,15,16,17,18,19,20,21,22,23,24,25,26,27,28] (G:=Nat) (H:=Int) (fun k n=>[(12,.int .i64 k),(7,.int .i64 n)]) (fun k n w=>k≤L.length∧n=idxL t.vars (L.take k) s∧Sat w0 w [Box pt 26 [a,b,c,d]]) (fun k _=>L.length-k) 0 0 (fun _ _=>rfl) ⟨rfl,rfl,trivial⟩ ⟨Nat.zero_le _,rfl,hw⟩ ?_
 clear hw
 rintro σ k n w ⟨hk,hn,hw⟩
 repeat refine qaa ?_
 refine go_if (fun h1 => ?_) (fun h1 => ?_)
 ·have hkl:k<L.length:=by omega
  have hv:=hL _ (qah tInt.dflt hkl)
  have hr:=hok.rng hv.1 hv.2
  have hb1:=qaK (p:=L.take k) hok fun v hv=>hL v (List.mem_of_mem_take hv)
  have hb2:=qaK (p:=L.take (k+1)) hok fun v hv=>hL v (List.mem_of_mem_take hv)
  have hle:=qfb hg.pos hL (k+1)
  have hS:=qf1 (vars:=t.vars) (s:=s) hkl
  rw [←hn] at hb1 hS
  simp only [sg] at hS hr
  have b0:0≤n*t.vars.getD (L.getD k tInt.dflt).toNat tInt.dflt:=Int.mul_nonneg (by omega) (by omega)
  repeat (first|refine qaa ?_|(refine qag ?_;clear hw;intro w hw))
  exact⟨k+1,_,⟨rfl,rfl,trivial⟩,agr,⟨by omega,hS.symm,hw⟩,by omega⟩
 ·repeat refine qaa ?_
  refine qae (v:=.int .i64 n) rfl rfl ⟨?_,hw.tail⟩
  rw [List.take_of_length_le (by omega)] at hn
  rw [hn]
end Go.Proofs.YtggdgcmjcahbbaaGreatDoor
/-
  Contracts of 'project.has' and 'outside'.
-/
namespace Go.Proofs.YtggdgcmjcahbbaaGreatDoor
open Go.Sl Go
attribute [local irreducible] vc opsW opsD opV opW PureV ReadV Thn Blk
theorem qmw {w0 w:World}{Γ:List HP}{p:Addr}{v:Value}(h:w0.cell? p=some v) (hw:Sat w0 w Γ):w.cell? p=some v:=by
 have hlt:p.block<w0.heap.size:=by
  rcases Nat.lt_or_ge p.block w0.heap.size with h'|h'
  ·exact h'
  ·simp [World.cell?,Array.getElem?_eq_none h'] at h
 rw [hw.below.cell hlt];exact h
set_option maxRecDepth 8000 in
theorem qmW {w0:World}{pv:Addr}{v:Int}{x:Fact}(hv:w0.cell? pv=some (.int .i64 v)) :
  Calls Tryz.prog 95 #[.agg #[.int .i64 x.var,.int .i64 x.val],.pointer (some pv)] w0 fun e w'=>e=.returned (.bool (decide (x.var=v)))∧Sat w0 w' []:=by
 have hw:=Sat.start w0
 refine qab (args:=[.agg #[.int .i64 x.var,.int .i64 x.val],.pointer (some pv)]) mixed Tryz.func95 rfl (by kernel_rfl) (Nat.le_of_ble_eq_true rfl) ?_
 repeat (first|refine qaa ?_|(refine qaf ?_;clear hw;intro p w hw))
 refine qaN rfl (qbK rfl (qmw hv hw)) ?_
 repeat refine qaa ?_
 exact qae (v:=.bool (decide (x.var=v))) rfl rfl ⟨rfl,hw.tail⟩
set_option maxRecDepth 8000 in
theorem qi4 {w0:World}{a:Value}{f:List Fact}{pv:Addr}{v:Int}(ha:RS tFact w0 a f) (hv:w0.cell? pv=some (.int .i64 v)) :
  Calls Tryz.prog 106 #[a,.func (.func 95) #[] #[.pointer (some pv)]] w0 fun e w'=>(∃ r:Int,e=.returned (.int .i64 r)∧(0≤r↔∃ x∈f,x.var=v))∧Sat w0 w' []:=by
 have hla:=ha.big
 have hw:=Sat.start w0
 refine qab (args:=[a,.func (.func 95) #[] #[.pointer (some pv)]]) mixed Tryz.func106 rfl (by kernel_rfl) (Nat.le_of_ble_eq_true rfl) ?_
 repeat refine qaa ?_
 refine qaj [4,5,8,9,10,11,12,13,14,15,16,17,18] (G:=Nat) (fun k=>[(8,.int .i64 k)]) (fun k w=>k≤f.length∧(∀ i,i<k→(f.getD i tFact.dflt).var≠v)∧Sat w0 w []) (fun k=>f.length-k) 0 (fun _=>rfl) ⟨rfl,trivial⟩ ⟨Nat.zero_le _,fun i hi=>absurd hi (Nat.not_lt_zero _),hw⟩ ?_
 clear hw
 rintro σ k w ⟨hk,hpre,hw⟩
 repeat refine qaa ?_
 refine go_if (fun h1 => ?_) (fun h1 => ?_)
 ·have hkl:k<f.length:=by omega
  repeat refine qaa ?_
  refine qbi (cs:=[.pointer (some pv)]) rfl rfl (qmW (x:=f.getD k tFact.dflt) (qmw hv hw)) ?_
  rintro _ w' ⟨rfl,hk'⟩
  replace hw:=hw.call0 hk'
  clear hk'
  refine⟨_,rfl,?_⟩
  repeat refine qaa ?_
  refine go_if (fun h2 => ?_) (fun h2 => ?_)
  ·repeat refine qaa ?_
   refine qae (v:=.int .i64 k) rfl rfl ⟨⟨k,rfl,⟨fun _=>⟨_,qah tFact.dflt hkl,h2⟩,fun _=>by omega⟩⟩,hw⟩
  ·repeat refine qaa ?_
   refine⟨k+1,⟨rfl,trivial⟩,agr,⟨by omega,fun i hi => ?_,hw⟩,by omega⟩
   by_cases h:i=k
   ·subst h;exact h2
   ·exact hpre i (by omega)
 ·repeat refine qaa ?_
  refine qae (v:=.int .i64 (-1)) rfl rfl ⟨⟨-1,rfl,⟨fun h=>by omega,?_⟩⟩,hw⟩
  rintro⟨x,hx,he⟩
  obtain⟨i,hi,rfl⟩:=List.mem_iff_getElem.1 hx
  exact absurd (by rw [qak hi];exact he) (hpre i (by omega))
set_option maxRecDepth 8000 in
theorem qmX {w0:World}{a:Value}{f:List Fact}{pv:Addr}{v:Int}(ha:RS tFact w0 a f) (hv:w0.cell? pv=some (.int .i64 v)) :
  Calls Tryz.prog 94 #[a,.func (.func 95) #[] #[.pointer (some pv)]] w0 fun e w'=>(∃ r,e=.returned (.bool r)∧(r=true↔∃ x∈f,x.var=v))∧Sat w0 w' []:=by
 have hw:=Sat.start w0
 refine qab (args:=[a,.func (.func 95) #[] #[.pointer (some pv)]]) mixed Tryz.func94 rfl (by kernel_rfl) (Nat.le_of_ble_eq_true rfl) ?_
 repeat refine qaa ?_
 refine qad rfl (qi4 ha hv) ?_
 rintro _ w' ⟨⟨r,rfl,hr⟩,hk'⟩
 replace hw:=hw.call0 hk'
 clear hk'
 refine⟨_,rfl,?_⟩
 repeat refine qaa ?_
 exact qae (v:=.bool (decide (0≤r))) rfl rfl ⟨⟨_,rfl,by rw [decide_eq_true_eq];exact hr⟩,hw⟩
set_option maxRecDepth 8000 in
theorem qop {w0:World}{a:Value}{f:List Fact}{v:Int}(ha:RS tFact w0 a f) :
  Calls Tryz.prog 75 #[a,.int .i64 v] w0 fun e w'=>(∃ r,e=.returned (.bool r)∧(r=true↔∃ x∈f,x.var=v))∧Sat w0 w' []:=by
 have hw:=Sat.start w0
 refine qab (args:=[a,.int .i64 v]) mixed Tryz.func75 rfl (by kernel_rfl) (Nat.le_of_ble_eq_true rfl) ?_
 repeat (first|refine qaa ?_|(refine qaf ?_;clear hw;intro p w hw))
 refine qad rfl (qmX (v:=v) (ha.at hw) (qcg (i:=0) hw rfl rfl)) ?_
 rintro _ w' ⟨⟨r,rfl,hr⟩,hk'⟩
 replace hw:=hw.call0 hk'
 clear hk'
 refine⟨_,rfl,?_⟩
 repeat refine qaa ?_
 exact qae (v:=.bool r) rfl rfl ⟨⟨_,rfl,hr⟩,hw.tail⟩
def FreeK (o:TOp) (L:List Int) (k:Nat) (u:Int):Prop:=(∃ e∈o.effs.take k,e.var∈L∧∃ f∈e.when,f.var=u)∧u∉L∧∀ f∈o.pre,f.var≠u
def FreeJ (o:TOp) (L:List Int) (k:Nat) (f:List Fact) (u:Int):Prop:=FreeK o L k u∨((∃ x∈f,x.var=u)∧u∉L∧∀ x∈o.pre,x.var≠u)
theorem qkC (o:TOp) (L:List Int) (u:Int):¬FreeK o L 0 u:=fun⟨⟨e,he,_⟩,_⟩=>by simp at he
theorem qkD {o:TOp}{L:List Int}{k:Nat}{u:Int}(hk:k<o.effs.length) (hm:(o.effs.getD k dEff).var∈L):FreeJ o L k (o.effs.getD k dEff).when u↔FreeK o L (k+1) u:=by
 unfold FreeJ FreeK
 rw [qal dEff hk]
 constructor
 ·rintro (⟨⟨e,he,h1⟩,h2⟩|⟨⟨x,hx,hxu⟩,h2⟩)
  ·exact⟨⟨e,by simp [he],h1⟩,h2⟩
  ·exact⟨⟨_,by simp,hm,x,hx,hxu⟩,h2⟩
 ·rintro⟨⟨e,he,h1,h3⟩,h2⟩
  rcases List.mem_append.1 he with he|he
  ·exact .inl ⟨⟨e,he,h1,h3⟩,h2⟩
  ·rw [List.mem_singleton.1 he] at h3
   exact .inr ⟨h3,h2⟩
theorem qkE {o:TOp}{L:List Int}{k:Nat}{u:Int}(hk:k<o.effs.length) (hm:(o.effs.getD k dEff).var∉L):FreeK o L k u↔FreeK o L (k+1) u:=by
 unfold FreeK
 rw [qal dEff hk]
 constructor
 ·rintro⟨⟨e,he,h1⟩,h2⟩
  exact⟨⟨e,by simp [he],h1⟩,h2⟩
 ·rintro⟨⟨e,he,h1,h3⟩,h2⟩
  rcases List.mem_append.1 he with he|he
  ·exact⟨⟨e,he,h1,h3⟩,h2⟩
  ·rw [List.mem_singleton.1 he] at h1
   exact absurd h1 hm
theorem qkF {o:TOp}{L:List Int}{k:Nat}{f:List Fact}{x:Fact}{u:Int}:FreeJ o L k (f++[x]) u↔FreeJ o L k f u∨(u=x.var∧u∉L∧∀ y∈o.pre,y.var≠u):=by
 unfold FreeJ
 constructor
 ·rintro (h|⟨⟨y,hy,hyu⟩,h2⟩)
  ·exact .inl (.inl h)
  ·rcases List.mem_append.1 hy with hy|hy
   ·exact .inl (.inr ⟨⟨y,hy,hyu⟩,h2⟩)
   ·rw [List.mem_singleton.1 hy] at hyu
    exact .inr ⟨hyu.symm,h2⟩
 ·rintro ((h|⟨⟨y,hy,hyu⟩,h2⟩)|⟨rfl,h2⟩)
  ·exact .inl h
  ·exact .inr ⟨⟨y,by simp [hy],hyu⟩,h2⟩
  ·exact .inr ⟨⟨x,by simp,rfl⟩,h2⟩
theorem qoe {xs:List Int}(h:xs.Nodup):(sortL xs).Pairwise (·<·):=by
 have h1:=qjP xs
 have h2:(sortL xs).Nodup:=(List.mergeSort_perm xs _).nodup_iff.2 h
 exact (h1.and h2).imp fun h=>by omega
set_option maxRecDepth 8000 in
set_option maxHeartbeats 2000000 in
theorem qh7 {w0:World}{va:Value}{v:OpV}{o:TOp}{vars L:List Int}(hv:ROp w0 v o) (hp:RS tInt w0 va L) (ho:OpOk vars o) (hn:vars.length≤64) :
  Calls Tryz.prog 50 #[.agg (tOp.enc v).toArray,va] w0 fun e w'=>∃ s,e=.returned s∧Sat w0 w' [OS tInt 3 s (freeL vars o L)]:=by
 have hone:=hv.one
 obtain⟨es,hes⟩:=hv.effs
 have hers:=hes.rs
 have hel:=hes.len
 have heb:=hers.big
 have hpre:=hv.pre
 have he64:=ho.effs
 have hw:=Sat.start w0
 refine qab (args:=[.agg (tOp.enc v).toArray,va]) mixed Tryz.func50 rfl (by kernel_rfl) (Nat.le_of_ble_eq_true rfl) ?_
 repeat (first|refine qaa ?_|(refine qaf ?_;clear hw;intro p w hw))
 obtain⟨pt,hpt⟩:∃ pt,pt=p:=⟨p,rfl⟩
 subst hpt
 refine qaJ [5,7,9,13,14,15,16,17,18,19,20,21,22,23,24,25,26,27,28,29,30,31,32,33,34,35,36,37,38,39,40,41,42,43,44,45,46,47,48,49,50,51,52,53,54,55] (G:=Nat) (H:=Value) (I:=List Int) (fun k s _=>[(13,.int .i64 k),(5,s)]) (fun k s xs w=>k≤o.effs.length∧xs.Nodup∧xs.length≤64*k∧(∀ u,u∈xs↔FreeK o L k u)∧Sat w0 w [OS tInt 3 s xs,Box pt 49 (tOp.enc v)]) (fun k _ _=>o.effs.length-k) 0 (.slice none 0 0) [] (fun _ _ _=>rfl) ⟨rfl,rfl,trivial⟩ ⟨Nat.zero_le _,List.nodup_nil,by simp,fun u=>⟨fun h=>by simp at h,fun h=>absurd h (qkC o L u)⟩,hw.nil⟩ ?_
 clear hw
 rintro σ k s xs w ⟨hk,hnd,hxl,hmem,hw⟩
 repeat refine qaa ?_
 refine go_if (fun h1 => ?_) (fun h1 => ?_)
 ·have hkl:k<o.effs.length:=by omega
  have hek:=hes.at_ k hkl
  have hwh:=hek.when
  have hone2:=hek.one
  have hv1:=hek.var
  have heo:=ho.eff k hkl
  have hwl:=qaO heo.1
  have hwb:=hwh.big
  obtain⟨F,hF⟩:∃ F,F=(o.effs.getD k dEff).when:=⟨_,rfl⟩
  rw [←hF] at hwh hwl hwb
  repeat (first|refine qaa ?_|(refine qaf ?_;clear hw;intro p w hw)|(refine qag ?_;clear hw;intro w hw))
  obtain⟨pe,hpe⟩:∃ pe,pe=p:=⟨p,rfl⟩
  subst hpe
  refine qad rfl (qau (hp.at hw)) ?_
  rintro _ w' ⟨rfl,hk'⟩
  replace hw:=hw.call0 hk'
  clear hk'
  by_cases hm:(eget tEff es k).var∈L
  ·rw [decide_eq_true hm]
   refine⟨_,rfl,?_⟩
   rw [hv1] at hm
   repeat refine qaa ?_
   refine qaJ [5,9,25,26,27,28,29,30,31,32,33,34,35,36,37,38,39,40,41,42,43,44,45,46,47,48,49,50,51,52,53,54] (G:=Nat) (H:=Value) (I:=List Int) (fun j s _=>[(25,.int .i64 j),(5,s)]) (fun j s xs w=>j≤F.length∧xs.Nodup∧xs.length≤64*k+j∧(∀ u,u∈xs↔FreeJ o L k (F.take j) u)∧Sat w0 w [Box pe 90 (tEff.enc (eget tEff es k)),OS tInt 3 s xs,Box pt 49 (tOp.enc v)]) (fun j _ _=>F.length-j) 0 s xs (fun _ _ _=>rfl) ⟨rfl,rfl,trivial⟩ ⟨Nat.zero_le _,hnd,by omega,fun u=>(hmem u).trans ⟨fun h=>.inl h,fun h=>by rcases h with h|⟨⟨x,hx,_⟩,_⟩;exact h;simp at hx⟩,hw⟩ ?_
   clear hw hmem hnd hxl
   rintro σ1 j s xs w ⟨hj,hnd,hxl,hmem,hw⟩
   repeat refine qaa ?_
   refine go_if (fun h2 => ?_) (fun h2 => ?_)
   ·have hjl:j<F.length:=by omega
    have hsn:=fun u=>qkF (o:=o) (L:=L) (k:=k) (f:=F.take j) (x:=F.getD j tFact.dflt) (u:=u)
    rw [←qal tFact.dflt hjl] at hsn
    repeat (first|refine qaa ?_|(refine qaf ?_;clear hw;intro p w hw)|(refine qag ?_;clear hw;intro w hw))
    refine qad rfl (qau (hp.at hw)) ?_
    rintro _ w' ⟨rfl,hk'⟩
    replace hw:=hw.call0 hk'
    clear hk'
    by_cases hm2:(F.getD j tFact.dflt).var∈L
    ·rw [decide_eq_true hm2]
     refine⟨_,rfl,?_⟩
     repeat refine qaa ?_
     refine⟨j+1,s,xs,⟨rfl,rfl,trivial⟩,agr,⟨by omega,hnd,by omega,fun u => ?_,hw.tail⟩,by omega⟩
     rw [hmem u,hsn u]
     exact⟨.inl,fun h=>h.resolve_right fun h=>h.2.1 (h.1 ▸ hm2)⟩
    ·rw [decide_eq_false hm2]
     refine⟨_,rfl,?_⟩
     repeat refine qaa ?_
     refine qad rfl (qop (hpre.at hw)) ?_
     rintro _ w' ⟨⟨r,rfl,hr⟩,hk'⟩
     replace hw:=hw.call0 hk'
     clear hk'
     refine⟨_,rfl,?_⟩
     cases r with
     | true =>
      repeat refine qaa ?_
      refine⟨j+1,s,xs,⟨rfl,rfl,trivial⟩,agr,⟨by omega,hnd,by omega,fun u => ?_,hw.tail⟩,by omega⟩
      rw [hmem u,hsn u]
      obtain⟨y,hy,hyu⟩:=hr.1 rfl
      exact⟨.inl,fun h=>h.resolve_right fun h=>h.2.2 y hy (by rw [hyu,h.1])⟩
     | false =>
      have hnp:∀ y∈o.pre,y.var≠(F.getD j tFact.dflt).var:=fun y hy e=>by have:=hr.2 ⟨y,hy,e⟩;cases this
      repeat refine qaa ?_
      refine qad rfl (qau (a:=s) (rsO hw)) ?_
      rintro _ w' ⟨rfl,hk'⟩
      replace hw:=hw.call0 hk'
      clear hk'
      by_cases hm3:(F.getD j tFact.dflt).var∈xs
      ·rw [decide_eq_true hm3]
       refine⟨_,rfl,?_⟩
       repeat refine qaa ?_
       refine⟨j+1,s,xs,⟨rfl,rfl,trivial⟩,agr,⟨by omega,hnd,by omega,fun u => ?_,hw.tail⟩,by omega⟩
       rw [hsn u,←hmem u]
       exact⟨.inl,fun h=>h.elim id fun h=>h.1 ▸ hm3⟩
      ·rw [decide_eq_false hm3]
       refine⟨_,rfl,?_⟩
       repeat (first|refine qaa ?_|(refine qap ?_;clear hw;intro s w hw))
       refine⟨j+1,_,xs++[(F.getD j tFact.dflt).var],⟨rfl,rfl,trivial⟩,agr,⟨by omega,?_,by simp;omega,fun u => ?_,hw.tail.tail⟩,by omega⟩
       ·rw [List.nodup_append]
        refine⟨hnd,by simp,fun x hx y hy e => ?_⟩
        rw [List.mem_singleton.1 hy] at e
        exact hm3 (e ▸ hx)
       ·rw [hsn u,←hmem u,List.mem_append,List.mem_singleton]
        exact⟨fun h=>h.elim .inl fun h=>.inr ⟨h,h ▸ hm2,fun y hy=>h ▸ hnp y hy⟩,fun h=>h.elim .inl fun h=>.inr h.1⟩
   ·rw [List.take_of_length_le (by omega)] at hmem
    repeat refine qaa ?_
    refine⟨k+1,s,xs,⟨rfl,rfl,trivial⟩,agr,⟨by omega,hnd,by omega,fun u => ?_,hw.tail⟩,by omega⟩
    rw [hmem u,hF,qkD hkl hm]
  ·rw [decide_eq_false hm]
   refine⟨_,rfl,?_⟩
   rw [hv1] at hm
   repeat refine qaa ?_
   refine⟨k+1,s,xs,⟨rfl,rfl,trivial⟩,agr,⟨by omega,hnd,by omega,fun u => ?_,hw.tail⟩,by omega⟩
   rw [hmem u,qkE hkl hm]
 ·have hke:k=o.effs.length:=by omega
  subst hke
  repeat refine qaa ?_
  refine qad rfl (qh5 hw (by omega)) ?_
  clear hw
  rintro _ w' ⟨rfl,hw⟩
  refine⟨_,rfl,?_⟩
  repeat refine qaa ?_
  refine qae (v:=s) rfl rfl ⟨s,rfl,?_⟩
  have e:sortL xs=freeL vars o L:=by
   refine qgn (qoe hnd) fun u => ?_
   rw [qhQ,hmem u]
   unfold FreeK FreeOf
   rw [List.take_length]
   constructor
   ·rintro⟨⟨e,he,h1,f,hf,hfu⟩,h2⟩
    have:=qa9 (ho.mem e he).1 f hf
    exact⟨⟨hfu ▸ this.1,hfu ▸ this.2.1⟩,⟨e,he,h1,f,hf,hfu⟩,h2⟩
   ·exact fun h=>h.2
  rw [e] at hw
  exact hw.only
end Go.Proofs.YtggdgcmjcahbbaaGreatDoor
