/-
  Proved: for every task 'EstimateAdmissible' returns true: no estimate but a table is greater than the least cost of a plan. The row lists three package-level variables, which the card ties to the program's text; no other condition.
-/
import Derived.Test.YtmapkjoefdgjfaaGreatDoorWLawEDD
set_option linter.unusedSimpArgs false
set_option linter.unusedVariables false
set_option maxRecDepth 8000
set_option maxHeartbeats 16000000
open List Nat
namespace Go.Proofs.YtmapkjoefdgjfaaGreatDoor.pED
open Go.Sl Go.ChangeShapes Go.WideShapes Go.ChangeAt Go.RowKit
set_option maxRecDepth 100000 in
theorem lifted (os:Os)(started:os.Started)(H:Type)(enc:TypeId × Value->H) :
  ReturnsInHanded {} Tryz.checked os 5 .any (fun w args=>(Rows.estimateAdmissibleSpec.pre enc Tryz.prog Tryz.f5 [] false w args/\laidMetH Tryz.prog qJ w)/\sizedMet enc Tryz.prog Tryz.f5 (OpenSpec.ofChange Rows.estimateAdmissibleSpec) false w args) (Rows.estimateAdmissibleSpec.post enc Tryz.prog Tryz.f5 false true false false):=by
 refine returnsInHanded_of_change_and (C:=Tryz.checked) (X:=fun w _=>laidMetH Tryz.prog qJ w) (fun _ _ _ y h=>h.of_heap y) own started kr Tryz.func5
  (ChangeSpec.witness_shaped (enc:=enc) (C:=Tryz.checked) (os:=os) (X:=fun w _=>laidMetH Tryz.prog qJ w) false (World.doorLaid Tryz.prog 14 os) #[.agg #[nS,nS,nS,nS]] 8 rfl (World.shaped_of_RefB kr kr) kr kr kr (Wk os _)) ?_
 intro f eO args z gs before a o _ _ r _;have A:=Wl r;have B:=Wx r;have b:∀ (j:Nat) t v,Tryz.f5.params[j]? = some t->args[j]? = some v->Value.okWide Tryz.prog f .any eO t v:=a;have g:=o;obtain⟨p,q,c,D,rfl,F,G⟩:=o;have u:DataW.TrodAll enc Tryz.prog f 0 (fun _=>true) true Tryz.f5.params.toList args.toList z p:=c;rw[Tryz.params5]at u b;obtain⟨v0,K,d0,L,N,T,i,rfl,rfl,k,P⟩:=trodAll_cons u;obtain⟨rfl,rfl,rfl⟩:=trodAll_nil P;obtain rfl:args=#[v0]:=by cases args;simp_all
 obtain⟨rfl,rfl⟩:=trodVars_none D;have l:∀ x∈N,x.block<f.heap.size:=by obtain⟨m,hm⟩:=k;exact DataW.trod_lt m _ _ _ hm
 have Q:=k;obtain⟨a0,V,c0,e0,R,t0,rfl,n⟩:=Wj (b 0 _ v0 rfl rfl) k;clear c a;refine(Ć A B n).mono fun e W' ⟨he,S⟩=>?_;subst he;have d:=S.below;exact⟨_,rfl,_,_,_,[],_,[],g,trodAll_mk1 (shut_bool Tryz.underlying4 _),trodAll_cons_mk (Below.trod zo kr (vX kr) Q d l) trodAll_mk0,rfl,d.frame _,fun h=>by cases h⟩
theorem Ε:(Rows.estimateAdmissibleRow.wf (OpenSpec.ofChange Rows.estimateAdmissibleSpec) && laidOutB Tryz.prog && mapsRowed Tryz.prog && Tryz.f5.params.all (Program.readableRec Tryz.prog ·) && namedTie Tryz.prog Rows.estimateAdmissibleRow.named Rows.estimateAdmissibleSpec.vars && (Rows.estimateAdmissibleRow.stops == []) && (Program.stops Tryz.prog == []) && (Rows.estimateAdmissibleRow.knobs == []) && (Program.stopKnobs Tryz.prog == []))=true:=kr
theorem Ζ:(Rows.estimateAdmissibleRow.inPlace == Program.inPlace Tryz.prog 5)=true:=kr
theorem Η:(Rows.estimateAdmissibleRow.unfollowed == Program.unfollowed Tryz.prog 5)=true:=kr
theorem Θ:(Rows.estimateAdmissibleRow.recurses == Program.recurses Tryz.prog 5)=true:=kr
theorem Ι:(Rows.estimateAdmissibleRow.named == Program.varsNamed Tryz.prog 5)=true:=kr
theorem joined:joinedFacts Tryz.prog 5 Tryz.f5 Rows.estimateAdmissibleSpec Rows.estimateAdmissibleRow=true:=by
 unfold joinedFacts;rw[Ε,Ζ,Η,Θ,Ι]
 kernel_rfl
theorem goes:false=Rows.estimateAdmissibleRow.goesBy Tryz.prog:=kr
theorem over:Rows.estimateAdmissibleRow.holds Tryz.pinned (OpenSpec.ofChange Rows.estimateAdmissibleSpec) :=
 OpenClaim.holds_of_wide 5 Tryz.f5 rfl rfl rfl rfl rfl rfl rfl ⟨rfl,rfl,rfl,rfl,rfl⟩ rfl rfl rfl rfl rfl kr Tryz.func5 joined
  (vX kr) (by unfold Func.isWrapper;first|(rw[aP (by decide +kernel)];kernel_rfl)|(rw[aH (by decide +kernel)];exact⟨rfl,rfl⟩))
  (fun os started H enc _=>lifted os started H enc)
theorem proved:Rows.EstimateAdmissibleCardSaid :=
 Claim7.holds_tied_plain_at .later [] [.data,.data,.data] true _ _ over (fun _ h=>by cases h) kr (fun _ h=>by cases h) estimateAdmissible_row_tie rfl ⟨rfl,rfl⟩ kr rfl
  (fun f fn c b=>by
   obtain rfl:f=5:=Bh ((show Tryz.prog.funcNamed Rows.estimateAdmissibleRow.func=some 5 by kernel_rfl).symm.trans c) |>.symm;obtain rfl:fn=Tryz.f5:=(Bh (Tryz.func5.symm.trans b)).symm
   exact⟨kr,fun j t d=>by
    have a:(Tryz.f5.params.toList.all fun u => !Tryz.prog.wantsStandIn u)=true:=kr;have hm:t∈Tryz.f5.params.toList:=Array.mem_toList_iff.2 (yF d)
    exact(show Tryz.prog.wantsStandIn t=false by simpa using all_eq_true.1 a t hm)⟩)
  goes
#print axioms proved
end Go.Proofs.YtmapkjoefdgjfaaGreatDoor.pED
