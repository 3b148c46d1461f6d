/-
  Several texts as one: WIBase, WIAw, WRlxN, WRlxNew.
-/
import Derived.Test.YtjdlohdcdmhigaaGreatDoorMW11
import Derived.Test.YtjdlohdcdmhigaaGreatDoorMW7
import Derived.Test.YtjdlohdcdmhigaaGreatDoorMW10
import Derived.Test.YtjdlohdcdmhigaaGreatDoorMSlB
import Derived.Test.YtjdlohdcdmhigaaGreatDoorMTA
import Derived.Test.YtjdlohdcdmhigaaGreatDoorMW3
import Derived.Test.YtjdlohdcdmhigaaGreatDoorMW1
import Derived.Test.YtjdlohdcdmhigaaGreatDoorMW5
set_option linter.unusedSimpArgs false
set_option linter.unusedVariables false
/-
  Contracts of the verifier's 'Best', 'Cost', 'Result'.
-/
namespace Go.Proofs.YtjdlohdcdmhigaaGreatDoor
open Go.Sl Go
attribute [local irreducible] vc opsW opsD opV opW PureV ReadV Thn Blk
end Go.Proofs.YtjdlohdcdmhigaaGreatDoor
/-
  The beginning of each statement of layer 50; 'fits' and 'below'.
-/
namespace Go.Proofs.YtjdlohdcdmhigaaGreatDoor
open Go.Sl Go
attribute [local irreducible] vc opsW opsD opV opW PureV ReadV Thn Blk
theorem qcZ:GoodT exIT:=by
 refine⟨by decide,by decide,by decide,by decide,by decide,fun i hi => ?_⟩
 have h0:i=0∨i=1∨i=2:=by simp [exIT] at hi;omega
 rcases h0 with rfl|rfl|rfl
 all_goals
  refine⟨by decide,by decide,by decide,⟨Nat.le_of_ble_eq_true rfl,fun i hi=>absurd hi (Nat.not_lt_zero _)⟩,by decide,fun j hj => ?_⟩
  have h1:j=0:=by simp [exIT,exOpI] at hj;omega
  subst h1
  exact⟨by decide,by decide⟩
end Go.Proofs.YtjdlohdcdmhigaaGreatDoor
/-
  Contracts of the relaxation's 'number' and 'add'.
-/
namespace Go.Proofs.YtjdlohdcdmhigaaGreatDoor
open Go.Sl Go
attribute [local irreducible] vc opsW opsD opV opW PureV ReadV Thn Blk
theorem qnw {vars:List Int}(hp:∀ x∈vars,1≤x) (hd:∀ i,i<vars.length→vars.getD i tInt.dflt≤64) (hvl:vars.length≤64) {i:Nat}(h:i<vars.length):(fstL vars vars.length).getD i tInt.dflt=firstV vars i∧0≤firstV vars i∧firstV vars i≤4096:=by
 have h1:=qb3 hp (b:=i) (by omega)
 have h2:=qc9 hd (b:=i) (by omega)
 exact⟨qnT h,h1,by omega⟩
set_option maxRecDepth 8000 in
theorem qce {w0:World}{pr:Addr}{vars:List Int}{c0 c1 c2 c3 fv c5 c6 c7 c8:Value}{f:Fact}(hr:BoxR w0 pr [c0,c1,c2,c3,fv,c5,c6,c7,c8]) (hf:RS tInt w0 fv (fstL vars vars.length)) (hp:∀ x∈vars,1≤x) (hd:∀ i,i<vars.length→vars.getD i tInt.dflt≤64) (hvl:vars.length≤64) (hx:FactOk vars f) :
  Calls Tryz.prog 93 #[.pointer (some pr),.agg #[.int .i64 f.var,.int .i64 f.val]] w0 fun e w'=>e=.returned (.int .i64 (numF vars f))∧Sat w0 w' []:=by
 obtain⟨x0,x1,x2,x3⟩:=hx
 have hv:f.var.toNat<vars.length:=by omega
 obtain⟨g0,g1,g2⟩:=qnw hp hd hvl hv
 have g3:=hd _ hv
 have hl:=qfQ vars vars.length
 have hw:=Sat.start w0
 refine qaf (args:=[.pointer (some pr),.agg #[.int .i64 f.var,.int .i64 f.val]]) mixed Tryz.func93 rfl (by kernel_rfl) (Nat.le_of_ble_eq_true rfl) ?_
 repeat (first|refine qac ?_|(refine qaa ?_;clear hw;intro p w hw)|(refine qae ?_;clear hw;intro w hw)|(refine qab ?_;clear hw;intro s w hw))
 exact qai (v:=.int .i64 ((fstL vars vars.length).getD f.var.toNat tInt.dflt+f.val)) rfl rfl ⟨by rw [g0];rfl,hw.sel⟩
def accN (vars:List Int) (Ls:List (List Fact)) (i:Nat):List Int:=(Ls.take i).foldl (fun acc l=>needsL vars l acc) []
theorem qlp {vars:List Int}{Ls:List (List Fact)}{i:Nat}(h:i<Ls.length):accN vars Ls (i+1)=needsL vars (Ls.getD i []) (accN vars Ls i):=by
 unfold accN
 rw [qaj [] h,List.foldl_append];rfl
theorem qcM {vars:List Int}{acc:List Int}{l:List Fact}{k:Nat}(h:k<l.length):needsL vars (l.take (k+1)) acc=addN (needsL vars (l.take k) acc) (numF vars (l.getD k tFact.dflt)):=by
 rw [qaj tFact.dflt h,qcJ]
theorem qjL {α:Type}{T:Ty α}{xs:List α}{x:α}{i:Nat}(h:i<xs.length):eget T (xs++[x]) i=eget T xs i:=by
 rw [qaN,qaN];simp [List.getD_eq_getElem?_getD,List.getElem?_append_left h]
theorem qjM {α:Type}{T:Ty α}{xs:List α}{x:α}{i:Nat}(h:i=xs.length):eget T (xs++[x]) i=x:=by
 rw [qaN];subst h;simp [List.getD_eq_getElem?_getD]
theorem UnF.snoc {us:List UnV}{U:List Un}{v:UnV}{u:Un}{w:World}(h:UnF us U w) (hl:us.length=U.length) (hv:RUn w v u):UnF (us++[v]) (U++[u]) w:=fun i hi=>by
 by_cases e:i<U.length
 ·rw [qjL (by omega),qhz e];exact h i e
 ·have e2:i=U.length:=by rw [List.length_append,List.length_singleton] at hi;omega
  rw [qjM (by omega),e2,qhA];exact hv
set_option maxRecDepth 8000 in
set_option maxHeartbeats 8000000 in
theorem ql0 {w0 w:World}{Γ:List HP}{pr:Addr}{c0 c1 c2 c3 fv uv nv frv v1 v2:Value}{us:List UnV}{ss:List Value}{U:List Un}{vars:List Int}{N:Nat}{op eff cost makes:Int}{l1 l2:List Fact}
  (hp:∀ x∈vars,1≤x) (hd:∀ i,i<vars.length→vars.getD i tInt.dflt≤64) (hvl:vars.length≤64) (hN:(N:Int)=firstV vars vars.length) (hN2:N≤4096) (hUl:U.length≤1048576)
  (h1:RS tFact w0 v1 l1) (h2:RS tFact w0 v2 l2) (k1:∀ f∈l1,FactOk vars f) (k2:∀ f∈l2,FactOk vars f) (n1:l1.length≤64) (n2:l2.length≤64) (hul:us.length=U.length)
  (hw:Sat w0 w (RowsAt tInt 3 ss (nedR U N)::OS tVal 22 nv ss::Box pr 156 [c0,c1,c2,c3,fv,.int .i64 (N:Int),uv,nv,frv]::OS tInt 3 fv (fstL vars vars.length)::OS tUn 160 uv us::RdH (UnF us U)::OS tInt 3 frv (freL U)::Γ)) :
  Calls Tryz.prog 92 #[.pointer (some pr),.agg #[.int .i64 op,.int .i64 eff,.int .i64 cost,.int .i64 makes,.slice none 0 0],v1,v2] w fun e w'=>e=.returned (.tuple #[])∧∃ uv' frv' us' ss',us'.length=(U++[(Un.mk op eff cost makes (needsL vars l2 (needsL vars l1 [])))]).length ∧
   Sat w0 w' (RowsAt tInt 3 ss' (nedR (U++[(Un.mk op eff cost makes (needsL vars l2 (needsL vars l1 [])))]) N)::OS tVal 22 nv ss'::Box pr 156 [c0,c1,c2,c3,fv,.int .i64 (N:Int),uv',nv,frv']::OS tInt 3 fv (fstL vars vars.length)::OS tUn 160 uv' us'::RdH (UnF us' (U++[(Un.mk op eff cost makes (needsL vars l2 (needsL vars l1 [])))]))::OS tInt 3 frv' (freL (U++[(Un.mk op eff cost makes (needsL vars l2 (needsL vars l1 [])))]))::Γ):=by
 have hss:=hw.rowsLen
 refine qaf (args:=[.pointer (some pr),.agg #[.int .i64 op,.int .i64 eff,.int .i64 cost,.int .i64 makes,.slice none 0 0],v1,v2]) mixed Tryz.func92 rfl (by kernel_rfl) (Nat.le_of_ble_eq_true rfl) ?_
 repeat (first|refine qac ?_|(refine qaa ?_;clear hw;intro p w hw)|(refine qad ?_;clear hw;intro w hw)|(refine qab ?_;clear hw;intro s w hw))
 obtain⟨p5,hp5⟩:∃ p5,p5=p:=⟨p,rfl⟩
 subst hp5
 have e1:=h1.cells1
 have e2:=h2.cells1
 have s1:v1.cells.size=1:=by rw [←Array.length_toList,e1];rfl
 have s2:v2.cells.size=1:=by rw [←Array.length_toList,e2];rfl
 refine qbM (T:=tVal) [v1,v2] [v1,v2] rfl (by simp only [List.flatMap_cons,e1,e2,List.flatMap_nil];rfl) (by simp [s1,s2]) rfl rfl (by decide) (by decide) (by decide) hw ?_
 clear hw
 intro lv w hw
 obtain⟨Ls,hLs⟩:∃ Ls:List (List Fact),Ls=[l1,l2]:=⟨_,rfl⟩
 have hLl:Ls.length=2:=by rw [hLs];rfl
 have hrow:∀ i,i<2→RS tFact w0 (vget [v1,v2] i) (Ls.getD i [])∧(∀ f∈Ls.getD i [],FactOk vars f)∧(Ls.getD i []).length≤64:=fun i hi=>by
  rw [hLs]
  match i,hi with
  | 0,_=>exact⟨by rw [qaR];exact h1,k1,n1⟩
  | 1,_=>exact⟨by rw [qaR];exact h2,k2,n2⟩
 have hval:accN vars Ls 2=needsL vars l2 (needsL vars l1 []):=by rw [hLs];rfl
 have hw1:Sat w0 w (OS tInt 3 (.slice none 0 0) (accN vars Ls 0)::Box p5 160 [.int .i64 op,.int .i64 eff,.int .i64 cost,.int .i64 makes,.slice none 0 0]::OS tVal 23 lv [v1,v2]::RowsAt tInt 3 ss (nedR U N)::OS tVal 22 nv ss::Box pr 156 [c0,c1,c2,c3,fv,.int .i64 (N:Int),uv,nv,frv]::OS tInt 3 fv (fstL vars vars.length)::OS tUn 160 uv us::RdH (UnF us U)::OS tInt 3 frv (freL U)::Γ):=Sat.nil (T:=tInt) (e:=3) hw.swap
 clear hw
 have hw:=hw1
 clear hw1
 repeat (first|refine qac ?_|(refine qaa ?_;clear hw;intro p w hw)|(refine qad ?_;clear hw;intro w hw)|(refine qab ?_;clear hw;intro s w hw))
 refine qaq [9,11,12,20,21,22,23,24,25,26,27,28,29,30,31,32,33,34,35,36,37,38,39,40,41,42,43,44,45] (G:=Nat) (H:=Value) (fun i _=>[(20,.int .i64 i)]) (fun i nd w=>i≤2∧(accN vars Ls i).length≤64*i∧Sat w0 w (OS tInt 3 nd (accN vars Ls i)::Box p5 160 [.int .i64 op,.int .i64 eff,.int .i64 cost,.int .i64 makes,nd]::OS tVal 23 lv [v1,v2]::RowsAt tInt 3 ss (nedR U N)::OS tVal 22 nv ss::Box pr 156 [c0,c1,c2,c3,fv,.int .i64 (N:Int),uv,nv,frv]::OS tInt 3 fv (fstL vars vars.length)::OS tUn 160 uv us::RdH (UnF us U)::OS tInt 3 frv (freL U)::Γ)) (fun i _=>2-i) 0 (.slice none 0 0) (fun _ _=>rfl) ⟨rfl,trivial⟩ ⟨by omega,Nat.le_refl 0,hw⟩ ?_
 clear hw
 rintro σ i nd w ⟨hi,hal,hw⟩
 have hv2:[v1,v2].length=2:=rfl
 repeat (first|refine qac ?_|(refine qaa ?_;clear hw;intro p w hw)|(refine qae ?_;clear hw;intro w hw)|(refine qab ?_;clear hw;intro s w hw))
 refine go_if (fun g1 => ?_) (fun g1 => ?_)
 ·have hi2:i<2:=by omega
  obtain⟨r1,r2,r3⟩:=hrow i hi2
  repeat (first|refine qac ?_|(refine qaa ?_;clear hw;intro p w hw)|(refine qad ?_;clear hw;intro w hw)|(refine qab ?_;clear hw;intro s w hw))
  obtain⟨l,hl⟩:∃ l,l=Ls.getD i []:=⟨_,rfl⟩
  rw [←hl] at r1 r2 r3
  have hll:(Ls.getD i []).length=l.length:=by rw [hl]
  refine qaq [11,12,26,27,28,29,30,31,32,33,34,35,36,37,38,39,40,41,42,43,44] (G:=Nat) (H:=Value) (fun k _=>[(26,.int .i64 k)]) (fun k nd w=>k≤l.length∧(needsL vars (l.take k) (accN vars Ls i)).length≤64*i+k∧Sat w0 w (OS tInt 3 nd (needsL vars (l.take k) (accN vars Ls i))::Box p5 160 [.int .i64 op,.int .i64 eff,.int .i64 cost,.int .i64 makes,nd]::OS tVal 23 lv [v1,v2]::RowsAt tInt 3 ss (nedR U N)::OS tVal 22 nv ss::Box pr 156 [c0,c1,c2,c3,fv,.int .i64 (N:Int),uv,nv,frv]::OS tInt 3 fv (fstL vars vars.length)::OS tUn 160 uv us::RdH (UnF us U)::OS tInt 3 frv (freL U)::Γ)) (fun k _=>l.length-k) 0 nd (fun _ _=>rfl) ⟨rfl,trivial⟩ ⟨by omega,by simpa [needsL] using hal,hw⟩ ?_
  clear hw
  rintro σ1 k nd1 w ⟨hk,hkl,hw⟩
  repeat (first|refine qac ?_|(refine qaa ?_;clear hw;intro p w hw)|(refine qae ?_;clear hw;intro w hw)|(refine qab ?_;clear hw;intro s w hw))
  refine go_if (fun g2 => ?_) (fun g2 => ?_)
  ·have hk2:k<l.length:=by omega
   have hfk:=r2 _ (qal tFact.dflt hk2)
   repeat (first|refine qac ?_|(refine qaa ?_;clear hw;intro p w hw)|(refine qad ?_;clear hw;intro w hw)|(refine qab ?_;clear hw;intro s w hw))
   refine qah rfl (qce (f:=l.getD k tFact.dflt) (boxRO (p:=pr) hw) (rsO (s:=fv) hw) hp hd hvl hfk) ?_
   rintro _ w' ⟨rfl,hk'⟩
   replace hw:=hw.call0 hk'
   clear hk'
   refine⟨_,rfl,?_⟩
   repeat (first|refine qac ?_|(refine qaa ?_;clear hw;intro p w hw)|(refine qad ?_;clear hw;intro w hw)|(refine qab ?_;clear hw;intro s w hw))
   refine qah rfl (qaI (rsO (s:=nd1) hw)) ?_
   rintro _ w' ⟨rfl,hk'⟩
   replace hw:=hw.call0 hk'
   clear hk'
   refine⟨_,rfl,?_⟩
   obtain⟨q,hq⟩:∃ q,q=decide (numF vars (l.getD k tFact.dflt)∈needsL vars (l.take k) (accN vars Ls i)):=⟨_,rfl⟩
   rw [←hq]
   have hna:=qmI (needsL vars (l.take k) (accN vars Ls i)) (numF vars (l.getD k tFact.dflt))
   rw [←qcM hk2] at hna
   cases q
   ·have hin:=of_decide_eq_false hq.symm
    repeat (first|refine qac ?_|(refine qaa ?_;clear hw;intro p w hw)|(refine qad ?_;clear hw;intro w hw)|(refine qab ?_;clear hw;intro s w hw))
    refine⟨k+1,s,⟨rfl,trivial⟩,agr,⟨by omega,by omega,?_⟩,by omega⟩
    rw [qcM hk2,addN,if_neg hin]
    exact hw.tail.tail
   ·have hin:=of_decide_eq_true hq.symm
    repeat (first|refine qac ?_|(refine qaa ?_;clear hw;intro p w hw)|(refine qad ?_;clear hw;intro w hw)|(refine qab ?_;clear hw;intro s w hw))
    exact⟨k+1,nd1,⟨rfl,trivial⟩,agr,⟨by omega,by omega,by rw [qcM hk2,addN,if_pos hin];exact hw.tail⟩,by omega⟩
  have hke:k=l.length:=by omega
  subst hke
  rw [List.take_of_length_le (Nat.le_refl _),hl,←qlp (by omega)] at hw hkl
  repeat (first|refine qac ?_|(refine qaa ?_;clear hw;intro p w hw)|(refine qad ?_;clear hw;intro w hw)|(refine qab ?_;clear hw;intro s w hw))
  exact⟨i+1,nd1,⟨rfl,trivial⟩,agr,⟨by omega,by omega,hw⟩,by omega⟩
 have hie:i=2:=by omega
 subst hie
 repeat (first|refine qac ?_|(refine qaa ?_;clear hw;intro p w hw)|(refine qad ?_;clear hw;intro w hw)|(refine qab ?_;clear hw;intro s w hw))
 rw [hval] at hw hal
 obtain⟨u,hu⟩:∃ u:Un,u=(Un.mk op eff cost makes (needsL vars l2 (needsL vars l1 []))):=⟨_,rfl⟩
 have hun:u.needs=needsL vars l2 (needsL vars l1 []):=by rw [hu]
 rw [←hu]
 rw [←hun] at hw hal
 have hvl2:(accN vars Ls 2).length=u.needs.length:=by rw [hval,hun]
 have hund:u.needs.Nodup:=by rw [hun];exact qbt (qbt List.nodup_nil _) _
 have hunr:∀ n∈u.needs,0≤n∧n<N:=fun n hn=>by
  rw [hun] at hn
  rw [hN]
  rcases qco.1 hn with hn|⟨f,hf,rfl⟩
  ·rcases qco.1 hn with hn|⟨f,hf,rfl⟩
   ·simp at hn
   ·exact qcn hp (k1 f hf)
  ·exact qcn hp (k2 f hf)
 rw [←qkN U u N] at hw
 refine qaq [15,54,55,56,57,58,59,60,61,62,63,64,65,66,67,68,69,70,71,72,73,74] (G:=Nat) (H:=List Value) (fun j _=>[(54,.int .i64 j)]) (fun j ss w=>j≤u.needs.length∧ss.length=N∧Sat w0 w (RowsAt tInt 3 ss (nedI U u j N)::OS tVal 22 nv ss::OS tInt 3 nd u.needs::Box p5 160 [.int .i64 op,.int .i64 eff,.int .i64 cost,.int .i64 makes,nd]::OS tVal 23 lv [v1,v2]::Box pr 156 [c0,c1,c2,c3,fv,.int .i64 (N:Int),uv,nv,frv]::OS tInt 3 fv (fstL vars vars.length)::OS tUn 160 uv us::RdH (UnF us U)::OS tInt 3 frv (freL U)::Γ)) (fun j _=>u.needs.length-j) 0 ss (fun _ _=>rfl) ⟨rfl,trivial⟩ ⟨Nat.zero_le _,by rw [hss,qfR],?_⟩ ?_
 ·exact (hw.focus 4 rfl).focus 4 rfl
 clear hw
 rintro σ1 j ss w ⟨hj,hsl,hw⟩
 repeat (first|refine qac ?_|(refine qaa ?_;clear hw;intro p w hw)|(refine qae ?_;clear hw;intro w hw)|(refine qab ?_;clear hw;intro s w hw))
 refine go_if (fun g3 => ?_) (fun g3 => ?_)
 ·have hjl:j<u.needs.length:=by omega
  have hnr:=hunr _ (qal tInt.dflt hjl)
  repeat (first|refine qac ?_|(refine qaa ?_;clear hw;intro p w hw)|(refine qad ?_;clear hw;intro w hw)|(refine qab ?_;clear hw;intro s w hw))
  have hi:(u.needs.getD j tInt.dflt).toNat<(nedI U u j N).length:=by rw [qiA];omega
  replace hw:=hw.rowOut hi
  have hrl:=qhy U u j N (u.needs.getD j tInt.dflt).toNat
  refine qax [.op 0,.op 1,.op 2,.op 3,.op 4,.op 5,.op 6,.op 7,.op 8,.op 9,.op 10,.op 11,.op 12,.op 13,.chk 3,.chk 8,.chk 11,.op 14,.chk 3,.op 15,.op 16] hw (by kernel_rfl) ?_;clear hw;intro w hw
  repeat (first|refine qac ?_|(refine qaa ?_;clear hw;intro p w hw)|(refine qae ?_;clear hw;intro w hw)|(refine qab ?_;clear hw;intro s w hw))
  replace hw:=Sat.rowIn hi (by rw [hsl,qiA]) hw.tail
  rw [hul,qmr hjl hund hunr] at hw
  exact⟨j+1,_,⟨rfl,trivial⟩,agr,⟨by omega,by rw [List.length_set];exact hsl,hw⟩,by omega⟩
 have hje:j=u.needs.length:=by omega
 subst hje
 rw [qmq] at hw
 have hfl:=qiD U
 have ond:=(rsO (s:=nd) hw).one
 obtain⟨uu,huu⟩:∃ uu:UnV,uu=⟨op,eff,cost,makes,nd⟩:=⟨_,rfl⟩
 repeat (first|refine qac ?_|(refine qaa ?_;clear hw;intro p w hw)|(refine qad ?_;clear hw;intro w hw)|(refine qab ?_;clear hw;intro s w hw))
 refine go_if (fun g4 => ?_) (fun g4 => ?_)
 ·have hnil:u.needs=[]:=List.eq_nil_of_length_eq_zero (by omega)
  have hfr:freL (U++[u])=freL U++[(us.length:Int)]:=by rw [qgz,if_pos hnil,hul]
  repeat (first|refine qac ?_|(refine qaa ?_;clear hw;intro p w hw)|(refine qad ?_;clear hw;intro w hw)|(refine qab ?_;clear hw;intro s w hw))
  rw [←hfr] at hw
  refine qax [.op 0,.op 1,.op 2,.op 3,.op 4,.op 5,.op 6,.chk 4,.op 7,.op 8,.op 9,.op 10] hw (by kernel_rfl) ?_;clear hw;intro w hw
  repeat (first|refine qac ?_|(refine qaa ?_;clear hw;intro p w hw)|(refine qad ?_;clear hw;intro w hw)|(refine qab ?_;clear hw;intro s w hw))
  refine qam tUn (x1:=uu) rfl (by rw [huu];rfl) rfl (Nat.le_of_ble_eq_true rfl) (Nat.zero_lt_succ _) hw ?_
  clear hw
  intro sl w hw
  have huo:∀ v∈tUn.enc uu,v.oneCell'=true:=by
   rw [huu]
   intro v hv
   simp only [tUn,List.mem_cons,List.not_mem_nil,or_false] at hv
   rcases hv with rfl|rfl|rfl|rfl|rfl
   ·rfl
   ·rfl
   ·rfl
   ·rfl
   ·exact ond
  repeat (first|refine qac ?_|(refine qaa ?_;clear hw;intro p w hw)|(refine qad ?_;clear hw;intro w hw)|(refine qab ?_;clear hw;intro s w hw))
  refine qbe (s:=uv) (s2:=sl) inferInstance rfl rfl (rsO hw) rfl rfl (fun x hx v hv=>by rw [List.mem_singleton.1 hx] at hv;exact huo v hv) (by simp only [List.length_cons,List.length_nil];omega) (by unfold big;simp only [List.length_cons,List.length_nil];omega) hw ?_
  clear hw
  intro uv2 w hw
  repeat (first|refine qac ?_|(refine qaa ?_;clear hw;intro p w hw)|(refine qad ?_;clear hw;intro w hw)|(refine qab ?_;clear hw;intro s w hw))
  obtain⟨fr2,hfr2⟩:∃ fr2,fr2=s:=⟨s,rfl⟩
  subst hfr2
  have hw1:Sat w0 w (RowsAt tInt 3 ss (nedR (U++[u]) N)::OS tVal 22 nv ss::OS tInt 3 nd u.needs::Box p5 160 [.int .i64 op,.int .i64 eff,.int .i64 cost,.int .i64 makes,nd]::OS tVal 23 lv [v1,v2]::Box pr 156 [c0,c1,c2,c3,fv,.int .i64 (N:Int),uv2,nv,fr2]::OS tInt 3 fv (fstL vars vars.length)::OS tUn 160 uv2 (us++[uu])::RdH (UnF us U)::OS tInt 3 fr2 (freL (U++[u]))::Γ):=hw.tail.tail
  exact qaL rfl ⟨rfl,uv2,fr2,us++[uu],ss,by simp [hul],Sat.selG (Sat.rd (Δ:=[OS tInt 3 nd u.needs,RdH (UnF us U)]) (Γ:=RowsAt tInt 3 ss (nedR (U++[u]) N)::OS tVal 22 nv ss::Box pr 156 [c0,c1,c2,c3,fv,.int .i64 (N:Int),uv2,nv,fr2]::OS tInt 3 fv (fstL vars vars.length)::OS tUn 160 uv2 (us++[uu])::OS tInt 3 fr2 (freL (U++[u]))::Γ) (φ:=UnF (us++[uu]) (U++[u])) (fun _ w h=>(h.rdE 1 rfl).snoc hul (by rw [huu,hu];exact⟨rfl,rfl,rfl,rfl,by rw [←hun];exact h.rs 0 rfl⟩)) (show Sat w0 w (OS tInt 3 nd u.needs::RdH (UnF us U)::RowsAt tInt 3 ss (nedR (U++[u]) N)::OS tVal 22 nv ss::Box pr 156 [c0,c1,c2,c3,fv,.int .i64 (N:Int),uv2,nv,fr2]::OS tInt 3 fv (fstL vars vars.length)::OS tUn 160 uv2 (us++[uu])::OS tInt 3 fr2 (freL (U++[u]))::Γ) from Sat.selG hw1))⟩
 ·have hnil:u.needs≠[]:=fun e=>g4 (by rw [e];rfl)
  have hfr:freL (U++[u])=freL U:=by rw [qgz,if_neg hnil,List.append_nil]
  repeat (first|refine qac ?_|(refine qaa ?_;clear hw;intro p w hw)|(refine qad ?_;clear hw;intro w hw)|(refine qab ?_;clear hw;intro s w hw))
  rw [←hfr] at hw
  refine qax [.op 0,.op 1,.op 2,.op 3,.op 4,.op 5,.op 6,.chk 4,.op 7,.op 8,.op 9,.op 10] hw (by kernel_rfl) ?_;clear hw;intro w hw
  repeat (first|refine qac ?_|(refine qaa ?_;clear hw;intro p w hw)|(refine qad ?_;clear hw;intro w hw)|(refine qab ?_;clear hw;intro s w hw))
  refine qam tUn (x1:=uu) rfl (by rw [huu];rfl) rfl (Nat.le_of_ble_eq_true rfl) (Nat.zero_lt_succ _) hw ?_
  clear hw
  intro sl w hw
  have huo:∀ v∈tUn.enc uu,v.oneCell'=true:=by
   rw [huu]
   intro v hv
   simp only [tUn,List.mem_cons,List.not_mem_nil,or_false] at hv
   rcases hv with rfl|rfl|rfl|rfl|rfl
   ·rfl
   ·rfl
   ·rfl
   ·rfl
   ·exact ond
  repeat (first|refine qac ?_|(refine qaa ?_;clear hw;intro p w hw)|(refine qad ?_;clear hw;intro w hw)|(refine qab ?_;clear hw;intro s w hw))
  refine qbe (s:=uv) (s2:=sl) inferInstance rfl rfl (rsO hw) rfl rfl (fun x hx v hv=>by rw [List.mem_singleton.1 hx] at hv;exact huo v hv) (by simp only [List.length_cons,List.length_nil];omega) (by unfold big;simp only [List.length_cons,List.length_nil];omega) hw ?_
  clear hw
  intro uv2 w hw
  repeat (first|refine qac ?_|(refine qaa ?_;clear hw;intro p w hw)|(refine qad ?_;clear hw;intro w hw)|(refine qab ?_;clear hw;intro s w hw))
  have hw1:Sat w0 w (RowsAt tInt 3 ss (nedR (U++[u]) N)::OS tVal 22 nv ss::OS tInt 3 nd u.needs::Box p5 160 [.int .i64 op,.int .i64 eff,.int .i64 cost,.int .i64 makes,nd]::OS tVal 23 lv [v1,v2]::Box pr 156 [c0,c1,c2,c3,fv,.int .i64 (N:Int),uv2,nv,frv]::OS tInt 3 fv (fstL vars vars.length)::OS tUn 160 uv2 (us++[uu])::RdH (UnF us U)::OS tInt 3 frv (freL (U++[u]))::Γ):=hw.tail
  exact qaL rfl ⟨rfl,uv2,frv,us++[uu],ss,by simp [hul],Sat.selG (Sat.rd (Δ:=[OS tInt 3 nd u.needs,RdH (UnF us U)]) (Γ:=RowsAt tInt 3 ss (nedR (U++[u]) N)::OS tVal 22 nv ss::Box pr 156 [c0,c1,c2,c3,fv,.int .i64 (N:Int),uv2,nv,frv]::OS tInt 3 fv (fstL vars vars.length)::OS tUn 160 uv2 (us++[uu])::OS tInt 3 frv (freL (U++[u]))::Γ) (φ:=UnF (us++[uu]) (U++[u])) (fun _ w h=>(h.rdE 1 rfl).snoc hul (by rw [huu,hu];exact⟨rfl,rfl,rfl,rfl,by rw [←hun];exact h.rs 0 rfl⟩)) (show Sat w0 w (OS tInt 3 nd u.needs::RdH (UnF us U)::RowsAt tInt 3 ss (nedR (U++[u]) N)::OS tVal 22 nv ss::Box pr 156 [c0,c1,c2,c3,fv,.int .i64 (N:Int),uv2,nv,frv]::OS tInt 3 fv (fstL vars vars.length)::OS tUn 160 uv2 (us++[uu])::OS tInt 3 frv (freL (U++[u]))::Γ) from Sat.selG hw1))⟩
end Go.Proofs.YtjdlohdcdmhigaaGreatDoor
/-
  Contract of 'relax.New' for a right task and no costs of its own.
-/
namespace Go.Proofs.YtjdlohdcdmhigaaGreatDoor
open Go.Sl Go
attribute [local irreducible] vc opsW opsD opV opW PureV ReadV Thn Blk
structure RRlx (w:World) (pr:Addr) (t:TTask):Prop where
 ex:∃ a c fv uv nv frv us ss,BoxR w pr [a,.slice none 0 0,c,.slice none 0 0,fv,.int .i64 (factN t:Int),uv,nv,frv]∧RS tInt w a t.vars∧RS tFact w c t.goal∧RS tInt w fv (fstL t.vars t.vars.length)∧RS tUn w uv us∧us.length=(unT t).length∧UnF us (unT t) w∧RS tVal w nv ss∧ss.length=factN t∧(∀ f,f<factN t→RS tInt w (vget ss f) (nedL (unT t) f))∧RS tInt w frv (freL (unT t))
set_option maxRecDepth 8000 in
set_option maxHeartbeats 8000000 in
theorem qlS {w0:World}{a b c d:Value}{vs:List OpV}{t:TTask}(ht:RTask w0 a b c d vs t) (hg:GoodT t) :
  Calls Tryz.prog 62 #[.agg #[a,b,c,d],.slice none 0 0] w0 fun e w'=>∃ p,e=.returned (.tuple #[.pointer (some p),.nilIface])∧Sat w0 w' [RdH fun w=>RRlx w p t]:=by
 have ht':=ht
 obtain⟨ha,hb,hc,hd⟩:=ht
 have hdr:=hd.rs
 have hdl:=hd.len
 have hvl:=hg.vars
 have hol:=hg.ops
 have hgl:=qaK hg.goal
 have hw:=Sat.start w0
 refine qaf (args:=[.agg #[a,b,c,d],.slice none 0 0]) mixed Tryz.func62 rfl (by kernel_rfl) (Nat.le_of_ble_eq_true rfl) ?_
 repeat (first|refine qac ?_|(refine qaa ?_;clear hw;intro p w hw)|(refine qad ?_;clear hw;intro w hw)|(refine qab ?_;clear hw;intro s w hw))
 obtain⟨pt,hpt⟩:∃ pt,pt=p:=⟨p,rfl⟩
 subst hpt
 refine qah rfl (qbK (ht'.at hw)) ?_
 rintro _ w' ⟨rfl,hk'⟩
 replace hw:=hw.call0 hk'
 clear hk'
 refine⟨_,rfl,?_⟩
 rw [qas ((qcW t).2 hg)]
 replace hw:=hw.nil (T:=tInt) (e:=3)
 have hz:(([]:List Int).length:Int)=0:=rfl
 repeat (first|refine qac ?_|(refine qaa ?_;clear hw;intro p w hw)|(refine qad ?_;clear hw;intro w hw)|(refine qab ?_;clear hw;intro s w hw))
 refine qak [4,5,8,36,37,38,39,40,41,42,43,44,45,46,47] (G:=Unit) (fun _=>[(36,.int .i64 0)]) (fun _ w=>Sat w0 w [OS tInt 3 (.slice none 0 0) [],Box pt 26 [a,b,c,d]]) (fun _=>0) () (fun _=>rfl) ⟨rfl,trivial⟩ hw ?_
 clear hw
 rintro σ _ w hw
 repeat (first|refine qac ?_|(refine qaa ?_;clear hw;intro p w hw)|(refine qae ?_;clear hw;intro w hw)|(refine qab ?_;clear hw;intro s w hw))
 replace hw:=hw.tail
 refine qax [.op 0,.op 1,.op 3,.op 4,.op 2,.chk 4,.op 5,.op 6,.op 7,.op 8,.op 9] hw (by kernel_rfl) ?_;clear hw;intro w hw
 repeat (first|refine qac ?_|(refine qaa ?_;clear hw;intro p w hw)|(refine qad ?_;clear hw;intro w hw)|(refine qab ?_;clear hw;intro s w hw))
 refine qah rfl (qaB (ha.at hw) (by omega)) ?_
 rintro _ w' ⟨a2,rfl,hk'⟩
 replace hw:=hw.call1 hk'
 clear hk'
 refine⟨_,rfl,?_⟩
 repeat (first|refine qac ?_|(refine qaa ?_;clear hw;intro p w hw)|(refine qad ?_;clear hw;intro w hw)|(refine qab ?_;clear hw;intro s w hw))
 refine qah rfl (qeW (hc.at hw) (by omega)) ?_
 rintro _ w' ⟨c2,rfl,hk'⟩
 replace hw:=hw.call1 hk'
 clear hk'
 refine⟨_,rfl,?_⟩
 repeat (first|refine qac ?_|(refine qaa ?_;clear hw;intro p w hw)|(refine qad ?_;clear hw;intro w hw)|(refine qab ?_;clear hw;intro s w hw))
 have oa:=(rsO (s:=a2) hw).one
 have oc:=(rsO (s:=c2) hw).one
 refine qc7 (v1:=a2) (v2:=c2) rfl rfl rfl (by simp only [List.all_cons,List.all_nil,oa,oc];rfl) ?_
 repeat (first|refine qac ?_|(refine qaa ?_;clear hw;intro p w hw)|(refine qad ?_;clear hw;intro w hw)|(refine qab ?_;clear hw;intro s w hw))
 refine qg7 (vs:=[(0,.agg #[a2,.slice none 0 0,c2,.slice none 0 0])]) (ls:=[(0,[a2,.slice none 0 0,c2,.slice none 0 0])]) rfl rfl rfl ?_
 repeat (first|refine qac ?_|(refine qaa ?_;clear hw;intro p w hw)|(refine qad ?_;clear hw;intro w hw)|(refine qab ?_;clear hw;intro s w hw))
 obtain⟨pr,hpr⟩:∃ pr,pr=p:=⟨p,rfl⟩
 subst hpr
 replace hw:Sat w0 w [Box pr 156 [a2,.slice none 0 0,c2,.slice none 0 0,.slice none 0 0,.int .i64 0,.slice none 0 0,.slice none 0 0,.slice none 0 0],OS tFact 69 c2 t.goal,OS tInt 3 a2 t.vars,Box pt 26 [a,b,c,d]]:=hw
 replace hw:=hw.nil (T:=tInt) (e:=3)
 refine qaq [11,60,61,62,63,64,65,66,67,68,69,70,71,72,73,74,75,76,77,78,79,80,81,82,83,84,85] (G:=Nat) (H:=Value) (fun k _=>[(60,.int .i64 k)]) (fun k fv w=>k≤t.vars.length∧Sat w0 w [OS tInt 3 fv (fstL t.vars k),Box pr 156 [a2,.slice none 0 0,c2,.slice none 0 0,fv,.int .i64 (firstV t.vars k),.slice none 0 0,.slice none 0 0,.slice none 0 0],OS tFact 69 c2 t.goal,OS tInt 3 a2 t.vars,Box pt 26 [a,b,c,d]]) (fun k _=>t.vars.length-k) 0 (.slice none 0 0) (fun _ _=>rfl) ⟨rfl,trivial⟩ ⟨Nat.zero_le _,hw⟩ ?_
 clear hw
 rintro σ k fv w ⟨hk,hw⟩
 have hfl:=qfQ t.vars k
 repeat (first|refine qac ?_|(refine qaa ?_;clear hw;intro p w hw)|(refine qae ?_;clear hw;intro w hw)|(refine qab ?_;clear hw;intro s w hw))
 refine go_if (fun h1 => ?_) (fun h1 => ?_)
 ·have hkl:k<t.vars.length:=by omega
  have hdk:=hg.dom k hkl
  have hf0:=qb3 hg.pos (b:=k) (by omega)
  have hf1:=qc9 (fun i hi=>(hg.dom i hi).2) (b:=k) (by omega)
  repeat (first|refine qac ?_|(refine qaa ?_;clear hw;intro p w hw)|(refine qad ?_;clear hw;intro w hw)|(refine qab ?_;clear hw;intro s w hw))
  refine qax [.op 0,.op 1,.op 2,.op 3,.op 4,.op 5,.op 6,.op 7,.op 8,.op 9,.chk 4,.op 10,.op 11,.op 12,.op 13] hw (by kernel_rfl) ?_;clear hw;intro w hw
  repeat (first|refine qac ?_|(refine qaa ?_;clear hw;intro p w hw)|(refine qad ?_;clear hw;intro w hw)|(refine qab ?_;clear hw;intro s w hw))
  rw [←qkM,←qbm hkl] at hw
  exact⟨k+1,s,⟨rfl,trivial⟩,agr,⟨by omega,hw.tail⟩,by omega⟩
 have hke:k=t.vars.length:=by omega
 subst hke
 rw [←qda hg] at hw
 have hN:=qiN hg
 repeat (first|refine qac ?_|(refine qaa ?_;clear hw;intro p w hw)|(refine qad ?_;clear hw;intro w hw)|(refine qab ?_;clear hw;intro s w hw))
 obtain⟨nv,hnv⟩:∃ nv,nv=s:=⟨s,rfl⟩
 subst hnv
 have hw1:Sat w0 w (RowsAt tInt 3 (List.replicate (factN t) (.slice none 0 0)) (nedR (unK t 0) (factN t))::OS tVal 22 nv (List.replicate (factN t) (.slice none 0 0))::Box pr 156 [a2,.slice none 0 0,c2,.slice none 0 0,fv,.int .i64 (factN t:Int),(.slice none 0 0),nv,(.slice none 0 0)]::OS tInt 3 fv (fstL t.vars t.vars.length)::OS tUn 160 (.slice none 0 0) ([]:List UnV)::RdH (UnF ([]:List UnV) (unK t 0))::OS tInt 3 (.slice none 0 0) (freL (unK t 0))::OS tInt 3 (.slice none 0 0) []::OS tFact 69 c2 t.goal::OS tInt 3 a2 t.vars::[Box pt 26 [a,b,c,d]]):=by
  rw [Int.toNat_natCast] at hw
  have g1:Sat w0 w [OS tVal 22 nv (List.replicate (factN t) (.slice none 0 0)),OS tInt 3 fv (fstL t.vars t.vars.length),Box pr 156 [a2,.slice none 0 0,c2,.slice none 0 0,fv,.int .i64 (factN t:Int),.slice none 0 0,nv,.slice none 0 0],OS tFact 69 c2 t.goal,OS tInt 3 a2 t.vars,Box pt 26 [a,b,c,d]]:=hw
  have g2:=Sat.rd0 (φ:=UnF [] []) (fun w i hi=>absurd hi (Nat.not_lt_zero _)) ((((g1.nil (T:=tInt) (e:=3)).nil (T:=tInt) (e:=3)).nil (T:=tUn) (e:=160)).rowsNil (T:=tInt) (e:=3) (factN t))
  have hu0:unK t 0=[]:=by simp [unK]
  rw [←qmp] at g2
  rw [hu0,qms]
  exact g2.selG
 clear hw
 have hw:=hw1
 clear hw1
 refine qak [12,13,14,15,16,97,98,99,100,101,102,103,104,105,106,107,108,109,110,111,112,113,114,115,116,117,118,119,120,121,122,123,124,125,126,127,128,129,130,131,132,133,134,135,136,137] (G:=Nat) (fun k=>[(97,.int .i64 k)]) (fun k w=>k≤t.ops.length∧∃ uv frv us ss,us.length=(unK t k).length∧Sat w0 w (RowsAt tInt 3 ss (nedR (unK t k) (factN t))::OS tVal 22 nv ss::Box pr 156 [a2,.slice none 0 0,c2,.slice none 0 0,fv,.int .i64 (factN t:Int),uv,nv,frv]::OS tInt 3 fv (fstL t.vars t.vars.length)::OS tUn 160 uv us::RdH (UnF us (unK t k))::OS tInt 3 frv (freL (unK t k))::OS tInt 3 (.slice none 0 0) []::OS tFact 69 c2 t.goal::OS tInt 3 a2 t.vars::[Box pt 26 [a,b,c,d]])) (fun k=>t.ops.length-k) 0 (fun _=>rfl) ⟨rfl,trivial⟩ ⟨Nat.zero_le _,_,_,_,_,rfl,hw⟩ ?_
 clear hw
 rintro σ1 k w ⟨hk,uv,frv,us,ss,hul,hw⟩
 repeat (first|refine qac ?_|(refine qaa ?_;clear hw;intro p w hw)|(refine qae ?_;clear hw;intro w hw)|(refine qab ?_;clear hw;intro s w hw))
 refine go_if (fun h2 => ?_) (fun h2 => ?_)
 ·have hkl:k<t.ops.length:=by omega
  have hop:=hd.at_ k hkl
  have hone:=hop.one
  have hpre:=hop.pre
  have hgo:=hg.op k hkl
  have hpl:=qaK hgo.pre
  have hel:=hgo.effs
  obtain⟨es,hes⟩:=hop.effs
  have hesr:=hes.rs
  have hesl:=hes.len
  repeat (first|refine qac ?_|(refine qaa ?_;clear hw;intro p w hw)|(refine qad ?_;clear hw;intro w hw)|(refine qab ?_;clear hw;intro s w hw))
  obtain⟨p13,hp13⟩:∃ p13,p13=p:=⟨p,rfl⟩
  subst hp13
  have hw1:Sat w0 w (RowsAt tInt 3 ss (nedR (unK t k++unO t.vars k (t.ops.getD k dOp) 0) (factN t))::OS tVal 22 nv ss::Box pr 156 [a2,.slice none 0 0,c2,.slice none 0 0,fv,.int .i64 (factN t:Int),uv,nv,frv]::OS tInt 3 fv (fstL t.vars t.vars.length)::OS tUn 160 uv us::RdH (UnF us (unK t k++unO t.vars k (t.ops.getD k dOp) 0))::OS tInt 3 frv (freL (unK t k++unO t.vars k (t.ops.getD k dOp) 0))::Box p13 44 (tOp.enc (eget tOp vs k))::OS tInt 3 (.slice none 0 0) []::OS tFact 69 c2 t.goal::OS tInt 3 a2 t.vars::[Box pt 26 [a,b,c,d]]):=by
   have hu0:unO t.vars k (t.ops.getD k dOp) 0=[]:=rfl
   rw [hu0,List.append_nil]
   exact hw.selG
  clear hw
  have hw:=hw1
  clear hw1
  refine qak [15,16,114,115,116,117,118,119,120,121,122,123,124,125,126,127,128,129,130,131,132,133,134,135,136] (G:=Nat) (fun j=>[(114,.int .i64 j)]) (fun j w=>j≤(t.ops.getD k dOp).effs.length∧∃ uv frv us ss,us.length=(unK t k++unO t.vars k (t.ops.getD k dOp) j).length∧Sat w0 w (RowsAt tInt 3 ss (nedR (unK t k++unO t.vars k (t.ops.getD k dOp) j) (factN t))::OS tVal 22 nv ss::Box pr 156 [a2,.slice none 0 0,c2,.slice none 0 0,fv,.int .i64 (factN t:Int),uv,nv,frv]::OS tInt 3 fv (fstL t.vars t.vars.length)::OS tUn 160 uv us::RdH (UnF us (unK t k++unO t.vars k (t.ops.getD k dOp) j))::OS tInt 3 frv (freL (unK t k++unO t.vars k (t.ops.getD k dOp) j))::Box p13 44 (tOp.enc (eget tOp vs k))::OS tInt 3 (.slice none 0 0) []::OS tFact 69 c2 t.goal::OS tInt 3 a2 t.vars::[Box pt 26 [a,b,c,d]])) (fun j=>(t.ops.getD k dOp).effs.length-j) 0 (fun _=>rfl) ⟨rfl,trivial⟩ ⟨Nat.zero_le _,_,_,_,_,by rw [show unO t.vars k (t.ops.getD k dOp) 0=[] from rfl,List.append_nil];exact hul,hw⟩ ?_
  clear hw hul
  clear uv frv us ss
  rintro σ2 j w ⟨hj,uv,frv,us,ss,hul,hw⟩
  repeat (first|refine qac ?_|(refine qaa ?_;clear hw;intro p w hw)|(refine qae ?_;clear hw;intro w hw)|(refine qab ?_;clear hw;intro s w hw))
  refine go_if (fun h3 => ?_) (fun h3 => ?_)
  ·have hjl:j<(t.ops.getD k dOp).effs.length:=by omega
   have hue:=hes.at_ j hjl
   have hgf:=hgo.eff j hjl
   have hueo:=hue.one
   have hwh:=hue.when
   repeat (first|refine qac ?_|(refine qaa ?_;clear hw;intro p w hw)|(refine qad ?_;clear hw;intro w hw)|(refine qab ?_;clear hw;intro s w hw))
   obtain⟨p16,hp16⟩:∃ p16,p16=p:=⟨p,rfl⟩
   subst hp16
   refine qax [.op 0,.op 1,.op 2,.op 3,.op 4,.op 5,.op 6,.op 7,.op 8,.op 12,.op 13,.op 14,.op 15,.op 9,.chk 13,.chk 15,.op 10,.chk 13,.chk 15,.op 11,.chk 13,.chk 15,.op 16] hw (by kernel_rfl) ?_;clear hw;intro w hw
   repeat (first|refine qac ?_|(refine qaa ?_;clear hw;intro p w hw)|(refine qad ?_;clear hw;intro w hw)|(refine qab ?_;clear hw;intro s w hw))
   have hfo:FactOk t.vars ⟨(eget tEff es j).var,(eget tEff es j).val⟩:=by rw [hue.var,hue.val];exact qaQ hgf
   refine qah rfl (qce (f:=⟨(eget tEff es j).var,(eget tEff es j).val⟩) (boxRO (p:=pr) hw) (rsO (s:=fv) hw) hg.pos (fun i hi=>(hg.dom i hi).2) hvl hfo) ?_
   rintro _ w' ⟨rfl,hk'⟩
   replace hw:=hw.call0 hk'
   clear hk'
   refine⟨_,rfl,?_⟩
   repeat (first|refine qac ?_|(refine qaa ?_;clear hw;intro p w hw)|(refine qad ?_;clear hw;intro w hw)|(refine qab ?_;clear hw;intro s w hw))
   refine qk7 (v1:=.int .i64 (k:Int)) (v2:=.int .i64 (j:Int)) (v3:=.int .i64 (eget tOp vs k).cost) (v4:=.int .i64 (numF t.vars ⟨(eget tEff es j).var,(eget tEff es j).val⟩)) rfl rfl rfl rfl rfl rfl ?_
   repeat (first|refine qac ?_|(refine qaa ?_;clear hw;intro p w hw)|(refine qad ?_;clear hw;intro w hw)|(refine qab ?_;clear hw;intro s w hw))
   have hwp:RS tFact w0 (eget tOp vs k).pre (t.ops.getD k dOp).pre:=hpre
   have hkp:∀ f∈(t.ops.getD k dOp).pre,FactOk t.vars f:=fun f hf=>by
    obtain⟨i,hi,rfl⟩:=List.getElem_of_mem hf
    have:=(hgo.pre i hi).1
    rwa [getD_at hi] at this
   have hkw:∀ f∈((t.ops.getD k dOp).effs.getD j dEff).when,FactOk t.vars f:=fun f hf=>by
    obtain⟨i,hi,rfl⟩:=List.getElem_of_mem hf
    have:=(hgf.1 i hi).1
    rwa [getD_at hi] at this
   have hwl:=qaK hgf.1
   have hUl:(unK t k++unO t.vars k (t.ops.getD k dOp) j).length≤1048576:=by
    have h5:=qhN hg (k:=k) (by omega)
    rw [List.length_append,qlc];omega
   have hw1:Sat w0 w' (RowsAt tInt 3 ss (nedR (unK t k++unO t.vars k (t.ops.getD k dOp) j) (factN t))::OS tVal 22 nv ss::Box pr 156 [a2,.slice none 0 0,c2,.slice none 0 0,fv,.int .i64 (factN t:Int),uv,nv,frv]::OS tInt 3 fv (fstL t.vars t.vars.length)::OS tUn 160 uv us::RdH (UnF us (unK t k++unO t.vars k (t.ops.getD k dOp) j))::OS tInt 3 frv (freL (unK t k++unO t.vars k (t.ops.getD k dOp) j))::Box p16 67 (tEff.enc (eget tEff es j))::Box p13 44 (tOp.enc (eget tOp vs k))::OS tInt 3 (.slice none 0 0) []::OS tFact 69 c2 t.goal::OS tInt 3 a2 t.vars::[Box pt 26 [a,b,c,d]]):=hw.selG
   refine qah rfl (ql0 (l1:=(t.ops.getD k dOp).pre) (l2:=((t.ops.getD k dOp).effs.getD j dEff).when) (vars:=t.vars) (N:=factN t) hg.pos (fun i hi=>(hg.dom i hi).2) hvl (qda hg) hN hUl hwp hwh hkp hkw (by omega) (by omega) hul hw1) ?_
   clear hw hw1
   rintro _ w ⟨rfl,uv2,frv2,us2,ss2,hul2,hw⟩
   refine⟨_,rfl,?_⟩
   have hue1:=hue.var
   have hue2:=hue.val
   have hco:=hop.cost
   rw [hue1,hue2,hco,List.append_assoc,show Un.mk (k:Int) (j:Int) (t.ops.getD k dOp).cost (numF t.vars ⟨((t.ops.getD k dOp).effs.getD j dEff).var,((t.ops.getD k dOp).effs.getD j dEff).val⟩) (needsL t.vars ((t.ops.getD k dOp).effs.getD j dEff).when (needsL t.vars (t.ops.getD k dOp).pre []))=unE t.vars k (t.ops.getD k dOp) j from rfl,←qmJ] at hw hul2
   repeat (first|refine qac ?_|(refine qaa ?_;clear hw;intro p w hw)|(refine qad ?_;clear hw;intro w hw)|(refine qab ?_;clear hw;intro s w hw))
   exact⟨j+1,⟨rfl,trivial⟩,agr,⟨by omega,uv2,frv2,us2,ss2,hul2,hw.selG⟩,by omega⟩
  have hje:j=(t.ops.getD k dOp).effs.length:=by omega
  subst hje
  rw [←qiM] at hw hul
  repeat (first|refine qac ?_|(refine qaa ?_;clear hw;intro p w hw)|(refine qad ?_;clear hw;intro w hw)|(refine qab ?_;clear hw;intro s w hw))
  exact⟨k+1,⟨rfl,trivial⟩,agr,⟨by omega,uv,frv,us,ss,hul,hw.selG⟩,by omega⟩
 have hke:k=t.ops.length:=by omega
 subst hke
 have hssl:ss.length=factN t:=by rw [hw.rowsLen,qfR]
 repeat (first|refine qac ?_|(refine qaa ?_;clear hw;intro p w hw)|(refine qad ?_;clear hw;intro w hw)|(refine qab ?_;clear hw;intro s w hw))
 have hw2:=Sat.rd (Δ:=[RowsAt tInt 3 ss (nedR (unK t t.ops.length) (factN t)),OS tVal 22 nv ss,Box pr 156 [a2,.slice none 0 0,c2,.slice none 0 0,fv,.int .i64 (factN t:Int),uv,nv,frv],OS tInt 3 fv (fstL t.vars t.vars.length),OS tUn 160 uv us,RdH (UnF us (unK t t.ops.length)),OS tInt 3 frv (freL (unK t t.ops.length)),OS tInt 3 (.slice none 0 0) [],OS tFact 69 c2 t.goal,OS tInt 3 a2 t.vars]) (φ:=fun w=>RRlx w pr t) (fun _ w h=>by
  refine⟨a2,c2,fv,uv,nv,frv,us,ss,h.boxR 2 rfl,h.rs 9 rfl,h.rs 8 rfl,h.rs 3 rfl,h.rs 4 rfl,hul,h.rdE 5 rfl,h.rs 1 rfl,hssl,fun f hf => ?_,h.rs 6 rfl⟩
  have h3:Sat _ w [RowsAt tInt 3 ss (nedR (unK t t.ops.length) (factN t))]:=h.sel
  have h4:=h3.row (i:=f) (by rw [qfR];exact hf)
  rw [qnU hf] at h4
  exact h4) hw
 exact qay (v:=.pointer (some pr)) (v':=.nilIface) rfl rfl rfl ⟨pr,rfl,hw2.sel⟩
end Go.Proofs.YtjdlohdcdmhigaaGreatDoor
