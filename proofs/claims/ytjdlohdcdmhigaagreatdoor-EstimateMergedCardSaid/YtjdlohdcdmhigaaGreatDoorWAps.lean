/-
  Contract of 'slices.AppendSeq' over the values of a slice.
-/
import Derived.Test.YtjdlohdcdmhigaaGreatDoorWVls
import Derived.Test.YtjdlohdcdmhigaaGreatDoorMSlB
set_option linter.unusedSimpArgs false
set_option linter.unusedVariables false
namespace Go.Proofs.YtjdlohdcdmhigaaGreatDoor
open Go.Sl Go
attribute [local irreducible] vc opsW opsD opV opW PureV ReadV Thn Blk
set_option maxRecDepth 8000 in
set_option maxHeartbeats 2000000 in
theorem qe9 {w0:World}{pb:Addr}{a:Value}{L:List Int}(hc:w0.cell? pb=some a) (ha:RS tInt w0 a L) (hl:L.length≤4096) :
  Calls Tryz.prog 107 #[.slice none 0 0,.func (.func 80) #[] #[.pointer (some pb)]] w0 fun e w'=>∃ s,e=.returned s∧Sat w0 w' [OS tInt 3 s L]:=by
 have hw:=Sat.start w0
 refine (callsIn_wide (n:=3)).1 (callsIn_of_wp_marks (F:=Fence.wide) (n:=3) Tryz.func107 rfl trivial ?_)
 refine qch (ro:=none) (n:=13) mixed (by kernel_rfl) (by simp only [Array.size_append,Array.size_replicate];rfl) rfl ?_
 rw [show (#[.slice none 0 0,.func (.func 80) #[] #[.pointer (some pb)]]:Array Value)=[.slice none 0 0,.func (.func 80) #[] #[.pointer (some pb)]].toArray from rfl,qkf]
 refine qaF ?_
 refine qdI ?_
 clear hw
 intro p2 w hw
 repeat (first|refine qac ?_|(refine qaa ?_;clear hw;intro p w hw)|(refine qae ?_;clear hw;intro w hw)|(refine qab ?_;clear hw;intro s w hw))
 intro a1 hs1 hd1 hf1
 refine wpIn_seq ?_
 refine qch (ro:=none) (n:=13) mixed (by kernel_rfl) hs1 hd1 ?_
 rw [hf1]
 repeat (first|refine qac ?_|(refine qaa ?_;clear hw;intro p w hw)|(refine qae ?_;clear hw;intro w hw)|(refine qab ?_;clear hw;intro s w hw))
 intro a2 hs2 hd2 hf2
 clear hf1 hd1 hs1
 refine wpIn_block ?_
 have hdx:a2.defers=[]:=hd2
 have ea:(⟨a2.tmps,[]⟩:Act)=a2:=by rw [←hdx]
 have ez:∀ x:Int,({ tmps:=(#[7].zip (encV x)).foldl (fun t (p,v)=>t.setIfInBounds p v) a2.tmps,defers:=[] }:Act)=a2.put (some 7) (.int .i64 x):=fun x=>by
  rw [←ea];unfold encV;simp [Act.put]
 obtain⟨W0,hW0⟩:∃ W0,W0=w:=⟨_,rfl⟩
 have hB:w0.heap.size≤w.heap.size:=hw.below.size
 refine wpIn_rangeFunc_ownF (F:=Fence.wide) (n:=3) (α:=Int) rfl (by decide) (gf:=80) (lb:=#[.pointer (some pb)]) (by rw [←qaZ,hf2];rfl) trivial (fun args w=>CallT.run inferInstance args w)
  (qgr (n:=2) hc ha)
  (fun h k=>⟨fun e=>k.1 (h.1 e),fun e=>k.2 (h.2 e)⟩) (fun W l o o' _ hl ho _=>⟨qcA hl ho,qgl hl ho⟩) hw.below (fun _=>rfl)
  (fun pre W=>∃ v,SatN w0 W [OS tInt 3 v pre,Box p2 22 [v]])
  (fun _ _ _=>False) (fun s W W' row ⟨v,h⟩ hg hr=>⟨v,h.turn hB hg hr⟩) (fun _=>fun _ _ _ _ h=>h.elim) ⟨.slice none 0 0,(hw.nil (T:=tInt) (e:=3)).toN⟩
  (fun x=>(a2.put (some 7) (.int .i64 x)).put (some 5) (.int .i64 x)) ?assign ?body ?done ?stop
 case assign =>
  intro l x W K hK
  rw [ez]
  refine qdD (ro:=some l) mixed (by rw [size_put,hs2];decide) (by rw [qaT];exact hdx) ?_
  rw [qb7 (fun t e=>by cases e;rw [hs2];decide)]
  exact hK
 case body =>
  rintro l pre x W ⟨v,hC⟩ hlen
  have hb:=hC.below
  refine wpIn_mono (qa1 (ro:=some l) (n:=13) mixed _ (by kernel_rfl) (fun e ρ W'=>e=.normal∧W.heap.size≤W'.heap.size∧∃ v',Sat w0 W' (RestN w0 W::[OS tInt 3 v' (pre++[x]),Box p2 22 [v']])) _ _ (by rw [size_put,size_put,hs2]) (by rw [qaT,qaT];exact hdx) ?_) ?_
  ·rw [qb7 (fun t e=>by cases e;rw [size_put,hs2];decide),qb7 (fun t e=>by cases e;rw [hs2];decide),hf2]
   clear hw
   have hw:=hC.open
   have hpl:pre.length≤4096:=by omega
   refine qcr ?_
   refine qaF ?_
   repeat (first|refine qcK ?_|refine qdv ?_)
   refine qeB tInt (x1:=x) rfl rfl rfl (Nat.le_of_ble_eq_true rfl) (Nat.zero_lt_succ _) hw ?_
   clear hw;intro s1 w1 hz1 hw
   refine qjz (T:=tInt) (sz:=1) (by_:=8) (e:=3) (zs:=[.int .i64 0]) (s:=v) (s2:=s1) (xs:=pre) (ys:=[x]) inferInstance rfl rfl (rsO hw) rfl rfl (fun y _ u hu=>OneT.ok y u hu) (by simp only [List.length_cons,List.length_nil];omega) (by unfold big;simp only [List.length_cons,List.length_nil];omega) hw ?_
   clear hw;intro s2 w2 hz2 hw
   refine qla (k:=0) (p:=p2) (v:=s2) (by simp [Addr.add];rfl) rfl ((rsO (s:=s2) hw).one) hw inferInstance (by simp) ?_
   clear hw;intro w3 hw hk3
   repeat (first|refine qac ?_|(refine qaa ?_;clear hw;intro p w hw)|(refine qab ?_;clear hw;intro s w hw))
   exact⟨rfl,by rw [hk3.1];omega,s2,hw.tail⟩
  ·intro e a' W' hq
   obtain⟨_,_,rfl,hsz,v',hw'⟩:=hq
   obtain⟨h1,h2⟩:=Sat.closeN hb hw' hsz
   exact⟨h2,⟨fun _=>qct hc hw',fun _=>ha.at hw'⟩,v',h1⟩
 case done =>
  rintro D xs W hD hS ⟨v,hC⟩ hK
  show Code.wpIn (fw none) 3 _ _ _ _ _
  refine wpIn_seq ?_
  refine qgT (n:=13) (ds:={ target:=.collected D,args:=#[] }::a2.defers) (K:=fun ρ w'=>ρ 4=v∧w'=W) (fun a w h => ?_) (by kernel_rfl) hs2 rfl ?_
  ·obtain⟨g1,g2,g3,rfl⟩:=h
   show Code.wpIn (fw none) 3 _ _ _ _ _
   refine wpIn_ret ?_
   rw [hdx] at g2
   obtain⟨at1,ad1⟩:=a
   subst g2
   refine⟨by simp,.inl ⟨_,_,rfl,run_takeDeferred hK,?_⟩⟩
   have hI:∃ v',v'=v∧SatN w0 (w.putObj D (.deferred none)) [OS tInt 3 v' xs,Box p2 22 [v']]:=⟨v,rfl,hC.turn hB (grownBy_putObj' w D (.deferred none)) fun r e=>by cases e;exact⟨hD,_,hK,rfl⟩⟩
   obtain⟨v',rfl,hI⟩:=hI
   have hS:xs=L:=hS
   subst hS
   have g4:at1[4]?.getD undef=v':=by rw [←Array.getD_eq_getD_getElem?];exact g3
   exact⟨v',by simp [results,Tryz.f107,Act.eval,g4],v',rfl,hI.sat0.sel⟩
  ·clear hw
   have hw:=hC.sat0
   show opsW _ _ _ [_,_] (fr a2) _
   rw [hf2]
   repeat (first|refine qac ?_|(refine qaa ?_;clear hw;intro p w hw)|(refine qab ?_;clear hw;intro s w hw))
   exact⟨rfl,rfl⟩
 case stop =>
  rintro D c pre W _ _ hF _
  exact hF.elim
end Go.Proofs.YtjdlohdcdmhigaaGreatDoor
