/-
  Proved: for all tasks and tables 'EstimateBest' returns true: Best is the greatest of its estimates, and it refuses nothing, nil and estimates of other tasks. The row lists three package-level variables, which the card ties to the program's text; no other condition.
-/
import Derived.Test.YtmapkjoefdgjfaaGreatDoorWLawESE
set_option linter.unusedSimpArgs false
set_option linter.unusedVariables false
set_option maxRecDepth 8000
set_option maxHeartbeats 16000000
open List Nat
namespace Go.Proofs.YtmapkjoefdgjfaaGreatDoor.pES
open Go.Sl Go.ChangeShapes Go.WideShapes Go.ChangeAt Go.RowKit
set_option maxRecDepth 100000 in
theorem lifted (os:Os)(started:os.Started)(H:Type)(enc:TypeId × Value->H) :
  ReturnsInHanded {} Tryz.checked os 6 .any (fun w args=>(Rows.estimateBestSpec.pre enc Tryz.prog Tryz.f6 [] false w args/\laidMetH Tryz.prog qJ w)/\sizedMet enc Tryz.prog Tryz.f6 (OpenSpec.ofChange Rows.estimateBestSpec) false w args) (Rows.estimateBestSpec.post enc Tryz.prog Tryz.f6 false true false false):=by
 refine returnsInHanded_of_change_and (C:=Tryz.checked) (X:=fun w _=>laidMetH Tryz.prog qJ w) (fun _ _ _ F h=>h.of_heap F) own started kr Tryz.func6
  (ChangeSpec.witness_shaped (enc:=enc) (C:=Tryz.checked) (os:=os) (X:=fun w _=>laidMetH Tryz.prog qJ w) false (World.doorLaid Tryz.prog 14 os) #[.agg #[nS,nS,nS,nS],.agg #[nS,nS,nS,nS],nS] 8 rfl (World.shaped_of_RefB kr kr) kr kr kr (Vs os _)) ?_
 intro d eL args G gs before b A _ _ B _;have K:=Vt B;have L:=Vu B;have a:∀ (j:Nat) t v,Tryz.f6.params[j]? = some t->args[j]? = some v->Value.okWide Tryz.prog d .any eL t v:=b;have g:=A;obtain⟨p,q,f,N,rfl,P,Q⟩:=A;have D:DataW.TrodAll enc Tryz.prog d 0 (fun _=>true) true Tryz.f6.params.toList args.toList G p:=f;rw[Tryz.params6]at D a;obtain⟨v0,R,d0,S,T,q0,i,rfl,rfl,k,V⟩:=trodAll_cons D;obtain⟨v1,j',d1,H',p1,q1,rfl,rfl,rfl,h1,r1⟩:=trodAll_cons V;obtain⟨v2,J',d2,P',p2,q2,rfl,rfl,rfl,l,r2⟩:=trodAll_cons r1;obtain⟨rfl,rfl,rfl⟩:=trodAll_nil r2;obtain rfl:args=#[v0,v1,v2]:=by cases args;simp_all
 obtain⟨rfl,rfl⟩:=trodVars_none N;have n:∀ x∈T,x.block<d.heap.size:=by obtain⟨m,hm⟩:=k;exact DataW.trod_lt m _ _ _ hm
 have o:∀ x∈p1,x.block<d.heap.size:=by obtain⟨m,hm⟩:=h1;exact DataW.trod_lt m _ _ _ hm
 have r:∀ x∈p2,x.block<d.heap.size:=by obtain⟨m,hm⟩:=l;exact DataW.trod_lt m _ _ _ hm
 have k0:=k;have k1:=h1;have k2:=l;obtain⟨a0,b0,c0,e0,R',t0,rfl,u⟩:=Oe (a 0 _ v0 rfl rfl) k;obtain⟨a1,b1,c1,e1,T',t1,rfl,y⟩:=Oe (a 1 _ v1 rfl rfl) h1;obtain⟨V',z⟩:=Vv (a 2 _ v2 rfl rfl) l;clear f b;refine(Vw K L u y z).mono fun e W' ⟨he,hs⟩=>?_;subst he;have c:=hs.below;exact⟨_,rfl,_,_,_,[],_,[],g,trodAll_mk1 (shut_bool Tryz.underlying4 _),trodAll_cons_mk (Below.trod rQ kr (uB kr) k0 c n) (trodAll_cons_mk (Below.trod rQ kr (uB kr) k1 c o) (trodAll_cons_mk (Below.trod rQ kr (uB kr) k2 c r) trodAll_mk0)),rfl,c.frame _,fun h=>by cases h⟩
theorem Vx:(Rows.estimateBestRow.wf (OpenSpec.ofChange Rows.estimateBestSpec) && laidOutB Tryz.prog && mapsRowed Tryz.prog && Tryz.f6.params.all (Program.readableRec Tryz.prog ·) && namedTie Tryz.prog Rows.estimateBestRow.named Rows.estimateBestSpec.vars && (Rows.estimateBestRow.stops == []) && (Program.stops Tryz.prog == []) && (Rows.estimateBestRow.knobs == []) && (Program.stopKnobs Tryz.prog == []))=true:=kr
theorem Vy:(Rows.estimateBestRow.inPlace == Program.inPlace Tryz.prog 6)=true:=kr
theorem Vz:(Rows.estimateBestRow.unfollowed == Program.unfollowed Tryz.prog 6)=true:=kr
theorem VA:(Rows.estimateBestRow.recurses == Program.recurses Tryz.prog 6)=true:=kr
theorem VB:(Rows.estimateBestRow.named == Program.varsNamed Tryz.prog 6)=true:=kr
theorem joined:joinedFacts Tryz.prog 6 Tryz.f6 Rows.estimateBestSpec Rows.estimateBestRow=true:=by
 unfold joinedFacts;rw[Vx,Vy,Vz,VA,VB]
 kernel_rfl
theorem goes:false=Rows.estimateBestRow.goesBy Tryz.prog:=kr
theorem over:Rows.estimateBestRow.holds Tryz.pinned (OpenSpec.ofChange Rows.estimateBestSpec) :=
 OpenClaim.holds_of_wide 6 Tryz.f6 rfl rfl rfl rfl rfl rfl rfl ⟨rfl,rfl,rfl,rfl,rfl⟩ rfl rfl rfl rfl rfl kr Tryz.func6 joined
  (uB kr) (by unfold Func.isWrapper;first|(rw[aM (by decide +kernel)];kernel_rfl)|(rw[aC (by decide +kernel)];exact⟨rfl,rfl⟩))
  (fun os started H enc _=>lifted os started H enc)
theorem proved:Rows.EstimateBestCardSaid :=
 Claim7.holds_tied_plain_at .later [] [.data,.data,.data] true _ _ over (fun _ h=>by cases h) kr (fun _ h=>by cases h) estimateBest_row_tie rfl ⟨rfl,rfl⟩ kr rfl
  (fun f fn c b=>by
   obtain rfl:f=6:=wx ((show Tryz.prog.funcNamed Rows.estimateBestRow.func=some 6 by kernel_rfl).symm.trans c) |>.symm;obtain rfl:fn=Tryz.f6:=(wx (Tryz.func6.symm.trans b)).symm
   exact⟨kr,fun j t d=>by
    have a:(Tryz.f6.params.toList.all fun u => !Tryz.prog.wantsStandIn u)=true:=kr;have hm:t∈Tryz.f6.params.toList:=Array.mem_toList_iff.2 (yq d)
    exact(show Tryz.prog.wantsStandIn t=false by simpa using all_eq_true.1 a t hm)⟩)
  goes
#print axioms proved
end Go.Proofs.YtmapkjoefdgjfaaGreatDoor.pES
