/-
  The example with which each statement of layer 47 begins.
-/
import Derived.Test.YtjdlohdcdmhigaaGreatDoorMW12
import Derived.Test.YtjdlohdcdmhigaaGreatDoorWRlxM
import Derived.Test.YtjdlohdcdmhigaaGreatDoorWEst4
set_option linter.unusedSimpArgs false
set_option linter.unusedVariables false
namespace Go.Proofs.YtjdlohdcdmhigaaGreatDoor
open Go.Sl Go
attribute [local irreducible] vc opsW opsD opV opW PureV ReadV Thn Blk
set_option maxRecDepth 8000 in
set_option maxHeartbeats 4000000 in
theorem qhp {w0:World} :
  Calls Tryz.prog 45 #[] w0 fun e w'=>∃ a b c d vs,e=.returned (.agg #[a,b,c,d])∧Sat w0 w' [RdH fun w=>RTask w a b c d vs exIT]:=by
 have hw:=Sat.start w0
 refine qaf (args:=[]) mixed Tryz.func45 rfl (by kernel_rfl) (Nat.le_of_ble_eq_true rfl) ?_
 repeat (first|refine qac ?_|(refine qaa ?_;clear hw;intro p w hw)|(refine qae ?_;clear hw;intro w hw)|(refine qab ?_;clear hw;intro s w hw))
 obtain⟨p0,hp0⟩:∃ p0,p0=p:=⟨p,rfl⟩
 subst hp0
 obtain⟨s4,hs4⟩:∃ s4,s4=s:=⟨s,rfl⟩
 subst hs4
 refine qam tFact (x1:=⟨0,3⟩) rfl rfl rfl (Nat.le_of_ble_eq_true rfl) (Nat.zero_lt_succ _) hw ?_
 clear hw
 intro s6 w hw
 obtain⟨s3,hs3⟩:∃ s3,s3=s:=⟨s,rfl⟩
 subst hs3
 have o6:=(hw.rs 0 rfl).one
 have o4:=(hw.rs 1 rfl).one
 have o3:=(hw.rs 2 rfl).one
 refine qbd (v1:=s3) (v2:=s4) (v3:=s6) rfl rfl rfl rfl (by simp only [List.all_cons,List.all_nil,o3,o4,o6];rfl) ?_
 refine qd3 ?_
 clear hw
 intro p1 w hw
 refine qao (n:=4) (p:=p1) (vs:=[s3,s4,s6,.slice none 0 0]) rfl rfl hw inferInstance rfl rfl (by simp only [List.all_cons,List.all_nil,o3,o4,o6];rfl) ?_
 clear hw
 intro w hw
 repeat (first|refine qac ?_|(refine qaa ?_;clear hw;intro p w hw)|(refine qae ?_;clear hw;intro w hw)|(refine qab ?_;clear hw;intro s w hw))
 have hw1:=hw.nil (T:=tOp) (e:=44)
 replace hw1:=Sat.rd0 (φ:=OpsI [] []) (fun w=>⟨rfl,fun i hi=>absurd hi (Nat.not_lt_zero _)⟩) hw1
 clear hw
 refine qbf [2,8,9,10,11,12,13,14,15,16,17,18,19,20,21,22,23,24] (G:=Nat) (H:=Value) (I:=List OpV) (fun k _ _=>[(8,.int .i64 k)]) (fun k ov vs w=>k≤3∧vs.length=k∧Sat w0 w [OS tOp 44 ov vs,RdH (OpsI vs (exIT.ops.take k)),Box p1 26 [s3,s4,s6,ov],OS tFact 69 s6 [⟨0,3⟩],OS tInt 3 s4 [0],OS tInt 3 s3 [4],Box p0 26 [.slice none 0 0,.slice none 0 0,.slice none 0 0,.slice none 0 0]]) (fun k _ _=>3-k) 0 (.slice none 0 0) [] (fun _ _ _=>rfl) ⟨rfl,trivial⟩ ⟨Nat.zero_le _,rfl,hw1.swap⟩ ?_
 clear hw1
 rintro σ k ov vs w ⟨hk,hvl,hw⟩
 repeat (first|refine qac ?_|(refine qaa ?_;clear hw;intro p w hw)|(refine qae ?_;clear hw;intro w hw)|(refine qab ?_;clear hw;intro s w hw))
 refine go_if (fun h1 => ?_) (fun h1 => ?_)
 ·repeat (first|refine qac ?_|(refine qaa ?_;clear hw;intro p w hw)|(refine qae ?_;clear hw;intro w hw)|(refine qab ?_;clear hw;intro s w hw))
  refine qam tFact (x1:=⟨0,k⟩) rfl rfl rfl (Nat.le_of_ble_eq_true rfl) (Nat.zero_lt_succ _) hw ?_
  clear hw
  intro sp w hw
  repeat (first|refine qac ?_|(refine qaa ?_;clear hw;intro p w hw)|(refine qae ?_;clear hw;intro w hw)|(refine qab ?_;clear hw;intro s w hw))
  refine qam tEff (x1:=⟨.slice none 0 0,0,(k:Int)+1⟩) rfl rfl rfl (Nat.le_of_ble_eq_true rfl) (Nat.zero_lt_succ _) hw ?_
  clear hw
  intro se w hw
  have op:=(hw.rs 1 rfl).one
  have oe:=(hw.rs 0 rfl).one
  refine qbd (v1:=.int .i64 2) (v2:=sp) (v3:=se) rfl rfl rfl rfl (by simp only [List.all_cons,List.all_nil,op,oe];rfl) ?_
  refine qam tOp (x1:=⟨ByteArray.empty,2,sp,se⟩) rfl rfl rfl (Nat.le_of_ble_eq_true rfl) (Nat.zero_lt_succ _) hw ?_
  clear hw
  intro so w hw
  refine qbe (s:=ov) (s2:=so) inferInstance rfl rfl (rsO hw) rfl rfl (fun x hx v hv => ?_) (by simp only [List.length_cons,List.length_nil];omega) (by unfold big;simp only [List.length_cons,List.length_nil];omega) hw ?_
  ·rw [List.mem_singleton.1 hx] at hv
   simp only [tOp,List.mem_cons,List.not_mem_nil,or_false] at hv
   rcases hv with rfl|rfl|rfl|rfl
   ·rfl
   ·rfl
   ·exact op
   ·exact oe
  clear hw
  intro ov2 w hw
  have o2:=(hw.rs 3 rfl).one
  repeat (first|refine qac ?_|(refine qaa ?_;clear hw;intro p w hw)|(refine qae ?_;clear hw;intro w hw)|(refine qab ?_;clear hw;intro s w hw))
  have hk3:(exIT.ops.take (k+1))=exIT.ops.take k++[⟨ByteArray.empty,2,[⟨0,k⟩],[⟨[],0,(k:Int)+1⟩]⟩]:=by
   have:k=0∨k=1∨k=2:=by omega
   rcases this with rfl|rfl|rfl <;> rfl
  have hw1:Sat w0 w ([OS tEff 67 se [⟨.slice none 0 0,0,(k:Int)+1⟩],OS tFact 69 sp [⟨0,k⟩],RdH (OpsI vs (exIT.ops.take k)),OS tOp 44 ov2 (vs++[⟨ByteArray.empty,2,sp,se⟩]),Box p1 26 [s3,s4,s6,ov2],OS tFact 69 s6 [⟨0,3⟩],OS tInt 3 s4 [0],OS tInt 3 s3 [4],Box p0 26 [.slice none 0 0,.slice none 0 0,.slice none 0 0,.slice none 0 0]]):=by
   have hw2:Sat w0 w [OS tOp 44 so [⟨ByteArray.empty,2,sp,se⟩],OS tEff 67 se [⟨.slice none 0 0,0,(k:Int)+1⟩],OS tFact 69 sp [⟨0,k⟩],OS tOp 44 ov2 (vs++[⟨ByteArray.empty,2,sp,se⟩]),RdH (OpsI vs (exIT.ops.take k)),Box p1 26 [s3,s4,s6,ov2],OS tFact 69 s6 [⟨0,3⟩],OS tInt 3 s4 [0],OS tInt 3 s3 [4],Box p0 26 [.slice none 0 0,.slice none 0 0,.slice none 0 0,.slice none 0 0]]:=hw
   exact hw2.sel
  clear hw
  have hw3:=Sat.rd2 (χ:=OpsI (vs++[⟨ByteArray.empty,2,sp,se⟩]) (exIT.ops.take (k+1))) (fun w h1 h2=>by rw [hk3];exact h2.snoc h1) (Sat.rd (φ:=fun w=>ROp w ⟨ByteArray.empty,2,sp,se⟩ ⟨ByteArray.empty,2,[⟨0,k⟩],[⟨[],0,(k:Int)+1⟩]⟩) (Δ:=[OS tEff 67 se [⟨.slice none 0 0,0,(k:Int)+1⟩],OS tFact 69 sp [⟨0,k⟩]]) (fun _ _ hw=>irop hw) hw1)
  exact⟨k+1,ov2,vs++[⟨ByteArray.empty,2,sp,se⟩],⟨rfl,trivial⟩,agr,⟨by omega,by rw [List.length_append,hvl];rfl,hw3.sel⟩,by omega⟩
 have hk3:k=3:=by omega
 subst hk3
 repeat (first|refine qac ?_|(refine qaa ?_;clear hw;intro p w hw)|(refine qae ?_;clear hw;intro w hw)|(refine qab ?_;clear hw;intro s w hw))
 refine qao (n:=4) (p:=p0) (vs:=[s3,s4,s6,ov]) rfl rfl hw inferInstance rfl rfl (by simp only [List.all_cons,List.all_nil,o3,o4,o6,(rsO (s:=ov) hw).one];rfl) ?_
 clear hw
 intro w hw
 repeat (first|refine qac ?_|(refine qaa ?_;clear hw;intro p w hw)|(refine qae ?_;clear hw;intro w hw)|(refine qab ?_;clear hw;intro s w hw))
 have hw2:Sat w0 w [OS tOp 44 ov vs,RdH (OpsI vs exIT.ops),Box p1 26 [s3,s4,s6,ov],OS tFact 69 s6 [⟨0,3⟩],OS tInt 3 s4 [0],OS tInt 3 s3 [4],Box p0 26 [s3,s4,s6,ov]]:=hw
 have hw3:=Sat.rd (Δ:=[OS tOp 44 ov vs,RdH (OpsI vs exIT.ops),Box p1 26 [s3,s4,s6,ov],OS tFact 69 s6 [⟨0,3⟩],OS tInt 3 s4 [0],OS tInt 3 s3 [4]]) (φ:=fun w=>RTask w s3 s4 s6 ov vs exIT) (fun _ w h=>⟨h.rs 5 rfl,h.rs 4 rfl,h.rs 3 rfl,⟨h.rs 0 rfl,(h.rdE 1 rfl).1,(h.rdE 1 rfl).2⟩⟩) hw2
 exact qis (p:=p0) (vs:=[s3,s4,s6,ov]) rfl rfl rfl (fun j v hv=>qau (i:=6) hw rfl hv) ⟨s3,s4,s6,ov,vs,rfl,hw3.sel⟩
theorem qf9:unT exIT=[⟨0,0,2,1,[0]⟩,⟨1,0,2,2,[1]⟩,⟨2,0,2,3,[2]⟩]:=rfl
theorem qnx:factN exIT=4:=rfl
theorem qog:IsHM exIT [0] [0,2,4,6]:=by
 have hst:StF exIT.vars [0] 0:=⟨0,by decide,rfl⟩
 refine qnN (by decide) (fun g h0 h1 => ?_) (qnu qcZ) (fun g hg => ?_) (fun i hi => ?_) (fun g h0 h1 h2 => ?_)
 ·rw [qnx] at h1
  have h3:g=0∨g=1∨g=2∨g=3:=by omega
  rcases h3 with rfl|rfl|rfl|rfl <;> decide
 ·obtain⟨v,hv,rfl⟩:=hg
  have:v=0:=by simp [exIT] at hv;exact hv
  subst this;decide
 ·rw [qf9] at hi ⊢
  have h3:i=0∨i=1∨i=2:=by simp at hi;omega
  rcases h3 with rfl|rfl|rfl <;> decide
 ·rw [qnx] at h1
  have d0:Der (unT exIT) (StF exIT.vars [0]) 0 0:=.start hst
  have d1:Der (unT exIT) (StF exIT.vars [0]) 1 2:=.fire (i:=0) (v:=fun _=>0) (m:=0) (by decide) (by decide) (fun n hn=>by rw [qf9] at hn;rw [List.mem_singleton.1 hn];exact d0) (fun _ _=>Int.le_refl _)
  have d2:Der (unT exIT) (StF exIT.vars [0]) 2 4:=.fire (i:=1) (v:=fun _=>2) (m:=2) (by decide) (by decide) (fun n hn=>by rw [qf9] at hn;rw [List.mem_singleton.1 hn];exact d1) (fun _ _=>Int.le_refl _)
  have d3:Der (unT exIT) (StF exIT.vars [0]) 3 6:=.fire (i:=2) (v:=fun _=>4) (m:=4) (by decide) (by decide) (fun n hn=>by rw [qf9] at hn;rw [List.mem_singleton.1 hn];exact d2) (fun _ _=>Int.le_refl _)
  have h3:g=0∨g=1∨g=2∨g=3:=by omega
  rcases h3 with rfl|rfl|rfl|rfl
  ·exact d0
  ·exact d1
  ·exact d2
  ·exact d3
theorem qny:estV exIT (blindH exIT) [0]=2:=by unfold estV;rw [if_pos (by decide)];decide
theorem qoC:estV exIT (blindH exIT) [3]=0:=by unfold estV;rw [if_pos (by decide)];decide
theorem qnz:estV exIT (hmaxH exIT) [0]=6:=by unfold estV;rw [if_pos (by decide),qku (by decide) qog];decide
theorem qoD:estV exIT (bestH exIT [blindH exIT,hmaxH exIT]) [0]=6:=by
 have h:bestH exIT [blindH exIT,hmaxH exIT] [0]=max (max 0 (estV exIT (blindH exIT) [0])) (estV exIT (hmaxH exIT) [0]):=rfl
 unfold estV
 rw [if_pos (by decide),h,qny,qnz];decide
set_option maxRecDepth 8000 in
set_option maxHeartbeats 4000000 in
theorem qdO {w0:World} :
  Calls Tryz.prog 20 #[] w0 fun e w'=>e=.returned (.bool true)∧Sat w0 w' []:=by
 have hw:=Sat.start w0
 refine qaf (args:=[]) mixed Tryz.func20 rfl (by kernel_rfl) (Nat.le_of_ble_eq_true rfl) ?_
 repeat (first|refine qac ?_|(refine qaa ?_;clear hw;intro p w hw)|(refine qad ?_;clear hw;intro w hw)|(refine qab ?_;clear hw;intro s w hw))
 refine qah rfl qhp ?_
 rintro _ w' ⟨a,b,c,d,vs,rfl,hk'⟩
 replace hw:=hw.call1 hk'
 clear hk'
 refine⟨_,rfl,?_⟩
 repeat (first|refine qac ?_|(refine qaa ?_;clear hw;intro p w hw)|(refine qad ?_;clear hw;intro w hw)|(refine qab ?_;clear hw;intro s w hw))
 have ht0:=hw.rdE 1 rfl
 have o1:=ht0.vars.one
 have o2:=ht0.init.one
 have o3:=ht0.goal.one
 have o4:=ht0.ops.rs.one
 clear ht0
 repeat (first|refine qac ?_|(refine qaa ?_;clear hw;intro p w hw)|(refine qab ?_;clear hw;intro s w hw))
 obtain⟨p1,hp1⟩:∃ p1,p1=p:=⟨p,rfl⟩
 subst hp1
 refine qao (n:=4) (p:=p1) (vs:=[a,b,c,d]) rfl rfl hw inferInstance rfl rfl (by simp only [List.all_cons,List.all_nil,o1,o2,o3,o4];rfl) ?_
 clear hw
 intro w hw
 repeat (first|refine qac ?_|(refine qaa ?_;clear hw;intro p w hw)|(refine qad ?_;clear hw;intro w hw)|(refine qab ?_;clear hw;intro s w hw))
 refine qah rfl (qj7 (hw.rdE 1 rfl) qcZ) ?_
 rintro _ w' ⟨pa,rfl,hk'⟩
 replace hw:=hw.call1 hk'
 clear hk'
 refine⟨_,rfl,?_⟩
 repeat (first|refine qac ?_|(refine qaa ?_;clear hw;intro p w hw)|(refine qad ?_;clear hw;intro w hw)|(refine qab ?_;clear hw;intro s w hw))
 refine qah rfl (qlW (hw.rdE 2 rfl) qcZ) ?_
 rintro _ w' ⟨pb,rfl,hk'⟩
 replace hw:=hw.call1 hk'
 clear hk'
 refine⟨_,rfl,?_⟩
 repeat (first|refine qac ?_|(refine qaa ?_;clear hw;intro p w hw)|(refine qad ?_;clear hw;intro w hw)|(refine qab ?_;clear hw;intro s w hw))
 refine qbM (T:=tVal) [.pointer (some pa),.pointer (some pb)] [.pointer (some pa),.pointer (some pb)] rfl rfl rfl rfl rfl (by decide) (by decide) (by decide) hw ?_
 clear hw
 intro lv w hw
 have hlv:RS tVal w lv ([some pa,some pb].map Value.pointer):=rsO (s:=lv) hw
 have hA:REst w pa exIT (blindH exIT):=hw.rdE 2 rfl
 have hB:REst w pb exIT (hmaxH exIT):=hw.rdE 1 rfl
 have hbst:bstE [some pa,some pb] [exIT,exIT]=0:=by
  unfold bstE
  rw [if_neg (by simp),if_neg]
  rintro⟨i,hi,hne⟩
  have h0:i=0∨i=1:=by simp at hi;omega
  rcases h0 with rfl|rfl <;> exact hne rfl
 refine qah rfl (qjH (ps:=[some pa,some pb]) (us:=[exIT,exIT]) (Hs:=[blindH exIT,hmaxH exIT]) hlv (show 2≤1048576 by decide) rfl (fun i hi p hp=>by
  have h0:i=0∨i=1:=by simp at hi;omega
  rcases h0 with rfl|rfl
  ·obtain rfl:pa=p:=Option.some.inj hp
   exact hA
  ·obtain rfl:pb=p:=Option.some.inj hp
   exact hB) qcZ) ?_
 rintro _ w' (⟨h1,_⟩|⟨_,pc,rfl,hk'⟩)
 ·exact absurd hbst h1
 replace hw:=hw.call1 hk'
 clear hk' hA hB hlv
 refine⟨_,rfl,?_⟩
 have hw2:Sat w0 w' [RdH (fun w=>REst w pc exIT (bestH exIT [blindH exIT,hmaxH exIT])∧REst w pb exIT (hmaxH exIT)∧REst w pa exIT (blindH exIT)),Box p1 26 [a,b,c,d],RdH fun w=>RTask w a b c d vs exIT]:=by
  have g2:Sat w0 w' [RdH (fun w=>REsts w [some pa,some pb] exIT [blindH exIT,hmaxH exIT]→REst w pc exIT (bestH exIT [blindH exIT,hmaxH exIT])),OS tVal 36 lv [.pointer (some pa),.pointer (some pb)],RdH (fun w=>REst w pb exIT (hmaxH exIT)),RdH (fun w=>REst w pa exIT (blindH exIT)),Box p1 26 [a,b,c,d],RdH fun w=>RTask w a b c d vs exIT]:=hw
  exact Sat.rd (Δ:=[RdH (fun w=>REsts w [some pa,some pb] exIT [blindH exIT,hmaxH exIT]→REst w pc exIT (bestH exIT [blindH exIT,hmaxH exIT])),OS tVal 36 lv [.pointer (some pa),.pointer (some pb)],RdH (fun w=>REst w pb exIT (hmaxH exIT)),RdH (fun w=>REst w pa exIT (blindH exIT))]) (fun _ w h=>⟨(h.rdE 0 rfl) (fun i hi=>by
   have h0:i=0∨i=1:=by simp at hi;omega
   rcases h0 with rfl|rfl
   ·exact⟨pa,rfl,h.rdE 3 rfl⟩
   ·exact⟨pb,rfl,h.rdE 2 rfl⟩),h.rdE 2 rfl,h.rdE 3 rfl⟩) g2
 clear hw
 have hw:=hw2
 clear hw2
 repeat (first|refine qac ?_|(refine qaa ?_;clear hw;intro p w hw)|(refine qad ?_;clear hw;intro w hw)|(refine qab ?_;clear hw;intro s w hw))
 refine qah rfl (qba (hw.rdE 1 rfl).2.2 (rsO (s:=s) hw)) ?_
 rintro _ w' ⟨rfl,hk'⟩
 replace hw:=hw.call0 hk'
 clear hk'
 refine⟨_,rfl,?_⟩
 rw [qny]
 repeat (first|refine qac ?_|(refine qaa ?_;clear hw;intro p w hw)|(refine qad ?_;clear hw;intro w hw)|(refine qab ?_;clear hw;intro s w hw))
 refine qah rfl (qba (hw.rdE 2 rfl).2.1 (rsO (s:=s) hw)) ?_
 rintro _ w' ⟨rfl,hk'⟩
 replace hw:=hw.call0 hk'
 clear hk'
 refine⟨_,rfl,?_⟩
 rw [qnz]
 repeat (first|refine qac ?_|(refine qaa ?_;clear hw;intro p w hw)|(refine qad ?_;clear hw;intro w hw)|(refine qab ?_;clear hw;intro s w hw))
 refine qah rfl (qba (hw.rdE 3 rfl).1 (rsO (s:=s) hw)) ?_
 rintro _ w' ⟨rfl,hk'⟩
 replace hw:=hw.call0 hk'
 clear hk'
 refine⟨_,rfl,?_⟩
 rw [qoD]
 repeat (first|refine qac ?_|(refine qaa ?_;clear hw;intro p w hw)|(refine qad ?_;clear hw;intro w hw)|(refine qab ?_;clear hw;intro s w hw))
 refine qah rfl (qba (hw.rdE 4 rfl).2.2 (rsO (s:=s) hw)) ?_
 rintro _ w' ⟨rfl,hk'⟩
 replace hw:=hw.call0 hk'
 clear hk'
 refine⟨_,rfl,?_⟩
 rw [qoC]
 repeat (first|refine qac ?_|(refine qaa ?_;clear hw;intro p w hw)|(refine qad ?_;clear hw;intro w hw)|(refine qab ?_;clear hw;intro s w hw))
 refine qah rfl (ql1 (hw.rdE 4 rfl).1 (hw.rdE 6 rfl)) ?_
 rintro _ w' ⟨⟨r,rfl,hr⟩,hk'⟩
 replace hw:=hw.call0 hk'
 clear hk'
 refine⟨_,rfl,?_⟩
 have hr1:r=true:=hr.2 rfl
 subst hr1
 repeat (first|refine qac ?_|(refine qaa ?_;clear hw;intro p w hw)|(refine qad ?_;clear hw;intro w hw)|(refine qab ?_;clear hw;intro s w hw))
 exact qai (v:=.bool true) rfl rfl ⟨rfl,qbb hw⟩
end Go.Proofs.YtjdlohdcdmhigaaGreatDoor
