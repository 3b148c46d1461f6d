/-
  Proved: for every task and size 'EstimateMerged' returns true: Merged gives the value of the abstraction that Build makes of the same task, order and size, and Build's errors. The row lists three package-level variables, which the card ties to the program's text; no other condition.
-/
import Derived.Test.YtjdlohdcdmhigaaGreatDoorMW1
import Derived.Test.YtjdlohdcdmhigaaGreatDoorWLawEM
set_option linter.unusedSimpArgs false
set_option linter.unusedVariables false
namespace Go.Proofs.YtjdlohdcdmhigaaGreatDoor.pEM
open Go.Sl Go.ChangeShapes Go.WideShapes Go.ChangeAt Go.RowKit
set_option maxRecDepth 100000 in
theorem lifted (os:Os) (started:os.Started) (H:Type) (enc:TypeId × Value→H) :
  ReturnsInHanded {} Tryz.checked os 5 .any (fun w args=>(Rows.estimateMergedSpec.pre enc Tryz.prog Tryz.f5 [] false w args∧laidMetH Tryz.prog laidL w)∧sizedMet enc Tryz.prog Tryz.f5 (OpenSpec.ofChange Rows.estimateMergedSpec) false w args) (Rows.estimateMergedSpec.post enc Tryz.prog Tryz.f5 false true false false):=by
 refine returnsInHanded_of_change_and (C:=Tryz.checked) (X:=fun w _=>laidMetH Tryz.prog laidL w) (fun _ _ _ hh h=>h.of_heap hh) own started (by kernel_rfl) Tryz.func5
  (ChangeSpec.witness_shaped (enc:=enc) (C:=Tryz.checked) (os:=os) (X:=fun w _=>laidMetH Tryz.prog laidL w) false (World.doorLaid Tryz.prog 14 os) #[.agg #[.slice none 0 0,.slice none 0 0,.slice none 0 0,.slice none 0 0],.int .i64 0] 8 rfl (World.shaped_of_RefB (by kernel_rfl) (by kernel_rfl)) (by kernel_rfl) (by kernel_rfl) (by kernel_rfl) (qmW os _)) ?_
 intro W base args ds gs before hval0 hW _ _ hL _
 have hT:=qod hL
 have hval:∀ (j:Nat) t v,Tryz.f5.params[j]? = some t→args[j]? = some v→Value.okWide Tryz.prog W .any base t v:=hval0
 have hW':=hW
 obtain⟨p,q,hA0,hV,rfl,hfz,hnd⟩:=hW
 have hA:DataW.TrodAll enc Tryz.prog W 0 (fun _=>true) true Tryz.f5.params.toList args.toList ds p:=hA0
 rw [Tryz.params5] at hA hval
 obtain⟨v0,vs0,d0,ds0,p0,q0,hargs,rfl,rfl,h0,r0⟩:=trodAll_cons hA
 obtain⟨v1,vs1,d1,ds1,p1,q1,rfl,rfl,rfl,h1,r1⟩:=trodAll_cons r0
 obtain⟨rfl,rfl,rfl⟩:=trodAll_nil r1
 obtain rfl:args=#[v0,v1]:=by cases args;simp_all
 obtain⟨rfl,rfl⟩:=trodVars_none hV
 have lt0:∀ x∈p0,x.block<W.heap.size:=by obtain⟨m,hm⟩:=h0;exact DataW.trod_lt m _ _ _ hm
 have lt1:∀ x∈p1,x.block<W.heap.size:=by obtain⟨m,hm⟩:=h1;exact DataW.trod_lt m _ _ _ hm
 have k0:=h0
 have k1:=h1
 obtain⟨a0,b0,c0,e0,os0,t0,rfl,ht0⟩:=qof (hval 0 _ v0 rfl rfl) h0
 obtain⟨n1,rfl,rfl,rfl,hr1⟩:=open_int Tryz.underlying3 (hval 1 _ v1 rfl rfl) h1
 replace hr1:=qoz hr1
 clear hA0 hval0
 refine (qcD hT ht0).mono fun e W' ⟨he,hs⟩ => ?_
 subst he
 have bel:=hs.below
 exact⟨_,rfl,_,_,_,[],_,[],hW',trodAll_mk1 (shut_bool Tryz.underlying4 _),trodAll_cons_mk (Below.trod laidOut (by kernel_rfl) (of_decide_eq_true (by kernel_rfl)) k0 bel lt0) (trodAll_cons_mk (Below.trod laidOut (by kernel_rfl) (of_decide_eq_true (by kernel_rfl)) k1 bel lt1) trodAll_mk0),rfl,bel.frame _,fun h=>by cases h⟩
theorem jf1:(Rows.estimateMergedRow.wf (OpenSpec.ofChange Rows.estimateMergedSpec) && laidOutB Tryz.prog && mapsRowed Tryz.prog && Tryz.f5.params.all (Program.readableRec Tryz.prog ·) && namedTie Tryz.prog Rows.estimateMergedRow.named Rows.estimateMergedSpec.vars && (Rows.estimateMergedRow.stops == []) && (Program.stops Tryz.prog == []) && (Rows.estimateMergedRow.knobs == []) && (Program.stopKnobs Tryz.prog == []))=true:=by kernel_rfl
theorem jf2:(Rows.estimateMergedRow.inPlace == Program.inPlace Tryz.prog 5)=true:=by kernel_rfl
theorem jf3:(Rows.estimateMergedRow.unfollowed == Program.unfollowed Tryz.prog 5)=true:=by kernel_rfl
theorem jf4:(Rows.estimateMergedRow.recurses == Program.recurses Tryz.prog 5)=true:=by kernel_rfl
theorem jf5:(Rows.estimateMergedRow.named == Program.varsNamed Tryz.prog 5)=true:=by kernel_rfl
theorem joined:joinedFacts Tryz.prog 5 Tryz.f5 Rows.estimateMergedSpec Rows.estimateMergedRow=true:=by
 unfold joinedFacts
 rw [jf1,jf2,jf3,jf4,jf5]
 kernel_rfl
theorem over:Rows.estimateMergedRow.holds Tryz.pinned (OpenSpec.ofChange Rows.estimateMergedSpec) :=
 OpenClaim.holds_of_wide 5 Tryz.f5 rfl rfl rfl rfl rfl rfl rfl ⟨rfl,rfl,rfl,rfl,rfl⟩ rfl rfl rfl rfl rfl (by kernel_rfl) Tryz.func5 joined
  (of_decide_eq_true (by kernel_rfl)) (by unfold Func.isWrapper;first|(rw [if_pos (by decide +kernel)];kernel_rfl)|(rw [if_neg (by decide +kernel)];exact⟨rfl,rfl⟩))
  (fun os started H enc _=>lifted os started H enc)
theorem proved:Rows.EstimateMergedCardSaid :=
 Claim7.holds_tied_plain_at .later [] [.data,.data,.data] true _ _ over (fun _ h=>by cases h) (by kernel_rfl) (fun _ h=>by cases h) estimateMerged_row_tie rfl ⟨rfl,rfl⟩ (by kernel_rfl) rfl
  (fun f fn hf hfn=>by
   obtain rfl:f=5:=Option.some.inj ((show Tryz.prog.funcNamed Rows.estimateMergedRow.func=some 5 by kernel_rfl).symm.trans hf) |>.symm
   obtain rfl:fn=Tryz.f5:=(Option.some.inj (Tryz.func5.symm.trans hfn)).symm
   exact⟨by kernel_rfl,fun j t ht=>by
    have hall:(Tryz.f5.params.toList.all fun u => !Tryz.prog.wantsStandIn u)=true:=by kernel_rfl
    have hm:t∈Tryz.f5.params.toList:=Array.mem_toList_iff.2 (Array.mem_of_getElem? ht)
    exact (show Tryz.prog.wantsStandIn t=false by simpa using List.all_eq_true.1 hall t hm)⟩)
  (by kernel_rfl)
#print axioms proved
end Go.Proofs.YtjdlohdcdmhigaaGreatDoor.pEM
