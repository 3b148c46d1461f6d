/-
  Proved: for every task 'WholeHeuristics' returns true: every heuristic is admissible on every state, and so is their maximum. The row lists three package-level variables, which the card ties to the program's text; no other condition.
-/
import Derived.Test.YtmapkjoefdgjfaaGreatDoorWLawWHH
set_option linter.unusedSimpArgs false
set_option linter.unusedVariables false
set_option maxRecDepth 8000
set_option maxHeartbeats 16000000
open List Nat
namespace Go.Proofs.YtmapkjoefdgjfaaGreatDoor.pWH
open Go.Sl Go.ChangeShapes Go.WideShapes Go.ChangeAt Go.RowKit
set_option maxRecDepth 100000 in
theorem lifted (os:Os)(started:os.Started)(H:Type)(enc:TypeId × Value->H) :
  ReturnsInHanded {} Tryz.checked os 4 .any (fun w args=>(Rows.wholeHeuristicsSpec.pre enc Tryz.prog Tryz.f4 [] false w args/\laidMetH Tryz.prog su w)/\sizedMet enc Tryz.prog Tryz.f4 (OpenSpec.ofChange Rows.wholeHeuristicsSpec) false w args) (Rows.wholeHeuristicsSpec.post enc Tryz.prog Tryz.f4 false true false false):=by
 refine returnsInHanded_of_change_and (C:=Tryz.checked) (X:=fun w _=>laidMetH Tryz.prog su w) (fun _ _ _ y h=>h.of_heap y) own started kr Tryz.func4
  (ChangeSpec.witness_shaped (enc:=enc) (C:=Tryz.checked) (os:=os) (X:=fun w _=>laidMetH Tryz.prog su w) false (World.doorLaid Tryz.prog 14 os) #[.agg #[nS,nS,nS,nS]] 8 rfl (World.shaped_of_RefB kr kr) kr kr kr (ZH os _)) ?_
 intro f fC args z gs before a o _ _ r _;have A:=ZI r;have B:=ZW r;have b:∀ (j:Nat) t v,Tryz.f4.params[j]? = some t->args[j]? = some v->Value.okWide Tryz.prog f .any fC t v:=a;have g:=o;obtain⟨p,q,c,D,rfl,F,G⟩:=o;have u:DataW.TrodAll enc Tryz.prog f 0 (fun _=>true) true Tryz.f4.params.toList args.toList z p:=c;rw[Tryz.params4]at u b;obtain⟨v0,K,d0,L,N,T,i,rfl,rfl,k,P⟩:=trodAll_cons u;obtain⟨rfl,rfl,rfl⟩:=trodAll_nil P;obtain rfl:args=#[v0]:=by cases args;simp_all
 obtain⟨rfl,rfl⟩:=trodVars_none D;have l:∀ x∈N,x.block<f.heap.size:=by obtain⟨m,hm⟩:=k;exact DataW.trod_lt m _ _ _ hm
 have Q:=k;obtain⟨a0,V,c0,e0,R,t0,rfl,n⟩:=ZG (b 0 _ v0 rfl rfl) k;clear c a;refine(Zq A B n).mono fun e W' ⟨he,S⟩=>?_;subst he;have d:=S.below;exact⟨_,rfl,_,_,_,[],_,[],g,trodAll_mk1 (shut_bool Tryz.underlying4 _),trodAll_cons_mk (Below.trod A5 kr (x5 kr) Q d l) trodAll_mk0,rfl,d.frame _,fun h=>by cases h⟩
theorem jf1:(Rows.wholeHeuristicsRow.wf (OpenSpec.ofChange Rows.wholeHeuristicsSpec) && laidOutB Tryz.prog && mapsRowed Tryz.prog && Tryz.f4.params.all (Program.readableRec Tryz.prog ·) && namedTie Tryz.prog Rows.wholeHeuristicsRow.named Rows.wholeHeuristicsSpec.vars && (Rows.wholeHeuristicsRow.stops == []) && (Program.stops Tryz.prog == []) && (Rows.wholeHeuristicsRow.knobs == []) && (Program.stopKnobs Tryz.prog == []))=true:=kr
theorem jf2:(Rows.wholeHeuristicsRow.inPlace == Program.inPlace Tryz.prog 4)=true:=kr
theorem jf3:(Rows.wholeHeuristicsRow.unfollowed == Program.unfollowed Tryz.prog 4)=true:=kr
theorem jf4:(Rows.wholeHeuristicsRow.recurses == Program.recurses Tryz.prog 4)=true:=kr
theorem jf5:(Rows.wholeHeuristicsRow.named == Program.varsNamed Tryz.prog 4)=true:=kr
theorem joined:joinedFacts Tryz.prog 4 Tryz.f4 Rows.wholeHeuristicsSpec Rows.wholeHeuristicsRow=true:=by
 unfold joinedFacts;rw[jf1,jf2,jf3,jf4,jf5]
 kernel_rfl
theorem goes:false=Rows.wholeHeuristicsRow.goesBy Tryz.prog:=kr
theorem over:Rows.wholeHeuristicsRow.holds Tryz.pinned (OpenSpec.ofChange Rows.wholeHeuristicsSpec) :=
 OpenClaim.holds_of_wide 4 Tryz.f4 rfl rfl rfl rfl rfl rfl rfl ⟨rfl,rfl,rfl,rfl,rfl⟩ rfl rfl rfl rfl rfl kr Tryz.func4 joined
  (x5 kr) (by unfold Func.isWrapper;first|(rw[ba (by decide +kernel)];kernel_rfl)|(rw[aM (by decide +kernel)];exact⟨rfl,rfl⟩))
  (fun os started H enc _=>lifted os started H enc)
theorem proved:Rows.WholeHeuristicsCardSaid :=
 Claim7.holds_tied_plain_at .later [] [.data,.data,.data] true _ _ over (fun _ h=>by cases h) kr (fun _ h=>by cases h) wholeHeuristics_row_tie rfl ⟨rfl,rfl⟩ kr rfl
  (fun f fn c b=>by
   obtain rfl:f=4:=zD ((show Tryz.prog.funcNamed Rows.wholeHeuristicsRow.func=some 4 by kernel_rfl).symm.trans c) |>.symm;obtain rfl:fn=Tryz.f4:=(zD (Tryz.func4.symm.trans b)).symm
   exact⟨kr,fun j t d=>by
    have a:(Tryz.f4.params.toList.all fun u => !Tryz.prog.wantsStandIn u)=true:=kr;have hm:t∈Tryz.f4.params.toList:=Array.mem_toList_iff.2 (Ao d)
    exact(show Tryz.prog.wantsStandIn t=false by simpa using all_eq_true.1 a t hm)⟩)
  goes
#print axioms proved
end Go.Proofs.YtmapkjoefdgjfaaGreatDoor.pWH
