/-
  Proved: for every task 'WholeConsistent' returns true: hmax, canonical pattern databases, saturated partitions and merge-and-shrink are consistent along every step. The row lists three package-level variables, which the card ties to the program's text; no other condition.
-/
import Derived.Test.YtmapkjoefdgjfaaGreatDoorWLawWC
set_option linter.unusedSimpArgs false
set_option linter.unusedVariables false
set_option maxRecDepth 8000
set_option maxHeartbeats 16000000
open List Nat
namespace Go.Proofs.YtmapkjoefdgjfaaGreatDoor.pWC
open Go.Sl Go.ChangeShapes Go.WideShapes Go.ChangeAt Go.RowKit
set_option maxRecDepth 100000 in
theorem lifted (os:Os) (started:os.Started) (H:Type) (enc:TypeId × Value->H) :
  ReturnsInHanded {} Tryz.checked os 3 .any (fun w args=>(Rows.wholeConsistentSpec.pre enc Tryz.prog Tryz.f3 [] false w args/\laidMetH Tryz.prog mJ w)/\sizedMet enc Tryz.prog Tryz.f3 (OpenSpec.ofChange Rows.wholeConsistentSpec) false w args) (Rows.wholeConsistentSpec.post enc Tryz.prog Tryz.f3 false true false false):=by
 refine returnsInHanded_of_change_and (C:=Tryz.checked) (X:=fun w _=>laidMetH Tryz.prog mJ w) (fun _ _ _ hh h=>h.of_heap hh) own started kr Tryz.func3
  (ChangeSpec.witness_shaped (enc:=enc) (C:=Tryz.checked) (os:=os) (X:=fun w _=>laidMetH Tryz.prog mJ w) false (World.doorLaid Tryz.prog 14 os) #[.agg #[.slice none 0 0,.slice none 0 0,.slice none 0 0,.slice none 0 0]] 8 rfl (World.shaped_of_RefB kr kr) kr kr kr (qtA os _)) ?_
 intro W base args ds gs before w7 hW _ _ hL _;have hT:=qvH hL;have hB:=qvK hL;have nt:∀ (j:Nat) t v,Tryz.f3.params[j]? = some t->args[j]? = some v->Value.okWide Tryz.prog W .any base t v:=w7;have hW':=hW;obtain⟨p,q,hA0,hV,rfl,hfz,fe⟩:=hW;have hA:DataW.TrodAll enc Tryz.prog W 0 (fun _=>true) true Tryz.f3.params.toList args.toList ds p:=hA0;rw[Tryz.params3]at hA nt;obtain⟨v0,vs0,d0,ds0,p0,q0,qzG,rfl,rfl,h0,r0⟩:=trodAll_cons hA;obtain⟨rfl,rfl,rfl⟩:=trodAll_nil r0;obtain rfl:args=#[v0]:=by cases args;simp_all
 obtain⟨rfl,rfl⟩:=trodVars_none hV;have lt0:∀ x∈p0,x.block<W.heap.size:=by obtain⟨m,hm⟩:=h0;exact DataW.trod_lt m _ _ _ hm
 have k0:=h0;obtain⟨a0,b0,c0,e0,os0,t0,rfl,ht0⟩:=quG (nt 0 _ v0 rfl rfl) h0;clear hA0 w7;refine(qdJ hT hB ht0).mono fun e W' ⟨he,hs⟩=>?_;subst he;have bel:=hs.below;exact⟨_,rfl,_,_,_,[],_,[],hW',trodAll_mk1 (shut_bool Tryz.underlying4 _),trodAll_cons_mk (Below.trod laidOut kr (of_decide_eq_true kr) k0 bel lt0) trodAll_mk0,rfl,bel.frame _,fun h=>by cases h⟩
theorem jf1:(Rows.wholeConsistentRow.wf (OpenSpec.ofChange Rows.wholeConsistentSpec) && laidOutB Tryz.prog && mapsRowed Tryz.prog && Tryz.f3.params.all (Program.readableRec Tryz.prog ·) && namedTie Tryz.prog Rows.wholeConsistentRow.named Rows.wholeConsistentSpec.vars && (Rows.wholeConsistentRow.stops == []) && (Program.stops Tryz.prog == []) && (Rows.wholeConsistentRow.knobs == []) && (Program.stopKnobs Tryz.prog == []))=true:=kr
theorem jf2:(Rows.wholeConsistentRow.inPlace == Program.inPlace Tryz.prog 3)=true:=kr
theorem jf3:(Rows.wholeConsistentRow.unfollowed == Program.unfollowed Tryz.prog 3)=true:=kr
theorem jf4:(Rows.wholeConsistentRow.recurses == Program.recurses Tryz.prog 3)=true:=kr
theorem jf5:(Rows.wholeConsistentRow.named == Program.varsNamed Tryz.prog 3)=true:=kr
theorem joined:joinedFacts Tryz.prog 3 Tryz.f3 Rows.wholeConsistentSpec Rows.wholeConsistentRow=true:=by
 unfold joinedFacts;rw[jf1,jf2,jf3,jf4,jf5]
 kernel_rfl
theorem goes:false=Rows.wholeConsistentRow.goesBy Tryz.prog:=kr
theorem over:Rows.wholeConsistentRow.holds Tryz.pinned (OpenSpec.ofChange Rows.wholeConsistentSpec) :=
 OpenClaim.holds_of_wide 3 Tryz.f3 rfl rfl rfl rfl rfl rfl rfl ⟨rfl,rfl,rfl,rfl,rfl⟩ rfl rfl rfl rfl rfl kr Tryz.func3 joined
  (of_decide_eq_true kr) (by unfold Func.isWrapper;first|(rw[if_pos (by decide +kernel)];kernel_rfl)|(rw[if_neg (by decide +kernel)];exact⟨rfl,rfl⟩))
  (fun os started H enc _=>lifted os started H enc)
theorem proved:Rows.WholeConsistentCardSaid :=
 Claim7.holds_tied_plain_at .later [] [.data,.data,.data] true _ _ over (fun _ h=>by cases h) kr (fun _ h=>by cases h) wholeConsistent_row_tie rfl ⟨rfl,rfl⟩ kr rfl
  (fun f fn hf hfn=>by
   obtain rfl:f=3:=Option.some.inj ((show Tryz.prog.funcNamed Rows.wholeConsistentRow.func=some 3 by kernel_rfl).symm.trans hf) |>.symm;obtain rfl:fn=Tryz.f3:=(Option.some.inj (Tryz.func3.symm.trans hfn)).symm
   exact⟨kr,fun j t ht=>by
    have bZ:(Tryz.f3.params.toList.all fun u => !Tryz.prog.wantsStandIn u)=true:=kr;have hm:t∈Tryz.f3.params.toList:=Array.mem_toList_iff.2 (Array.mem_of_getElem? ht)
    exact(show Tryz.prog.wantsStandIn t=false by simpa using all_eq_true.1 bZ t hm)⟩)
  goes
#print axioms proved
end Go.Proofs.YtmapkjoefdgjfaaGreatDoor.pWC
