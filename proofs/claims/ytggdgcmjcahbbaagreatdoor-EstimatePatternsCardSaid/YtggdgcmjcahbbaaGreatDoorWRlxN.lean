/-
  Contracts of the relaxation's 'number' and 'add'.
-/
import Derived.Test.YtggdgcmjcahbbaaGreatDoorMTA
import Derived.Test.YtggdgcmjcahbbaaGreatDoorMW3
import Derived.Test.YtggdgcmjcahbbaaGreatDoorMW1
import Derived.Test.YtggdgcmjcahbbaaGreatDoorMSlB
set_option linter.unusedSimpArgs false
set_option linter.unusedVariables false
namespace Go.Proofs.YtggdgcmjcahbbaaGreatDoor
open Go.Sl Go
attribute [local irreducible] vc opsW opsD opV opW PureV ReadV Thn Blk
theorem qoq {vars:List Int}(hp:∀ x∈vars,1≤x) (hd:∀ i,i<vars.length→vars.getD i tInt.dflt≤64) (hvl:vars.length≤64) {i:Nat}(h:i<vars.length):(fstL vars vars.length).getD i tInt.dflt=firstV vars i∧0≤firstV vars i∧firstV vars i≤4096:=by
 have h1:=qcj hp (b:=i) (by omega)
 have h2:=qdp hd (b:=i) (by omega)
 exact⟨qpA h,h1,by omega⟩
set_option maxRecDepth 8000 in
theorem qcm {w0:World}{pr:Addr}{vars:List Int}{c0 c1 c2 c3 fv c5 c6 c7 c8:Value}{f:Fact}(hr:BoxR w0 pr [c0,c1,c2,c3,fv,c5,c6,c7,c8]) (hf:RS tInt w0 fv (fstL vars vars.length)) (hp:∀ x∈vars,1≤x) (hd:∀ i,i<vars.length→vars.getD i tInt.dflt≤64) (hvl:vars.length≤64) (hx:FactOk vars f) :
  Calls Tryz.prog 68 #[.pointer (some pr),.agg #[.int .i64 f.var,.int .i64 f.val]] w0 fun e w'=>e=.returned (.int .i64 (numF vars f))∧Sat w0 w' []:=by
 obtain⟨x0,x1,x2,x3⟩:=hx
 have hv:f.var.toNat<vars.length:=by omega
 obtain⟨g0,g1,g2⟩:=qoq hp hd hvl hv
 have g3:=hd _ hv
 have hl:=qgM vars vars.length
 have hw:=Sat.start w0
 refine qab (args:=[.pointer (some pr),.agg #[.int .i64 f.var,.int .i64 f.val]]) mixed Tryz.func68 rfl (by kernel_rfl) (Nat.le_of_ble_eq_true rfl) ?_
 repeat (first|refine qaa ?_|(refine qaf ?_;clear hw;intro p w hw)|(refine qag ?_;clear hw;intro w hw))
 exact qae (v:=.int .i64 ((fstL vars vars.length).getD f.var.toNat tInt.dflt+f.val)) rfl rfl ⟨by rw [g0];rfl,hw.sel⟩
def accN (vars:List Int) (Ls:List (List Fact)) (i:Nat):List Int:=(Ls.take i).foldl (fun acc l=>needsL vars l acc) []
theorem qk9 {vars:List Int}{Ls:List (List Fact)}{i:Nat}(h:i<Ls.length):accN vars Ls (i+1)=needsL vars (Ls.getD i []) (accN vars Ls i):=by
 unfold accN
 rw [qal [] h,List.foldl_append];rfl
theorem qcO {vars:List Int}{acc:List Int}{l:List Fact}{k:Nat}(h:k<l.length):needsL vars (l.take (k+1)) acc=addN (needsL vars (l.take k) acc) (numF vars (l.getD k tFact.dflt)):=by
 rw [qal tFact.dflt h,qcQ]
theorem qj7 {α:Type}{T:Ty α}{xs:List α}{x:α}{i:Nat}(h:i<xs.length):eget T (xs++[x]) i=eget T xs i:=by
 rw [qaX,qaX];simp [List.getD_eq_getElem?_getD,List.getElem?_append_left h]
theorem qj8 {α:Type}{T:Ty α}{xs:List α}{x:α}{i:Nat}(h:i=xs.length):eget T (xs++[x]) i=x:=by
 rw [qaX];subst h;simp [List.getD_eq_getElem?_getD]
theorem UnF.snoc {us:List UnV}{U:List Un}{v:UnV}{u:Un}{w:World}(h:UnF us U w) (hl:us.length=U.length) (hv:RUn w v u):UnF (us++[v]) (U++[u]) w:=fun i hi=>by
 by_cases e:i<U.length
 ·rw [qj7 (by omega),qiN e];exact h i e
 ·have e2:i=U.length:=by rw [List.length_append,List.length_singleton] at hi;omega
  rw [qj8 (by omega),e2,qiO];exact hv
set_option maxRecDepth 8000 in
set_option maxHeartbeats 8000000 in
theorem qmK {w0 w:World}{Γ:List HP}{pr:Addr}{c0 c1 c2 c3 fv uv nv frv v1 v2:Value}{us:List UnV}{ss:List Value}{U:List Un}{vars:List Int}{N:Nat}{op eff cost makes:Int}{l1 l2:List Fact}
  (hp:∀ x∈vars,1≤x) (hd:∀ i,i<vars.length→vars.getD i tInt.dflt≤64) (hvl:vars.length≤64) (hN:(N:Int)=firstV vars vars.length) (hN2:N≤4096) (hUl:U.length≤1048576)
  (h1:RS tFact w0 v1 l1) (h2:RS tFact w0 v2 l2) (k1:∀ f∈l1,FactOk vars f) (k2:∀ f∈l2,FactOk vars f) (n1:l1.length≤64) (n2:l2.length≤64) (hul:us.length=U.length)
  (hw:Sat w0 w (RowsAt tInt 3 ss (nedR U N)::OS tVal 22 nv ss::Box pr 134 [c0,c1,c2,c3,fv,.int .i64 (N:Int),uv,nv,frv]::OS tInt 3 fv (fstL vars vars.length)::OS tUn 138 uv us::RdH (UnF us U)::OS tInt 3 frv (freL U)::Γ)) :
  Calls Tryz.prog 67 #[.pointer (some pr),.agg #[.int .i64 op,.int .i64 eff,.int .i64 cost,.int .i64 makes,.slice none 0 0],v1,v2] w fun e w'=>e=.returned (.tuple #[])∧∃ uv' frv' us' ss',us'.length=(U++[(Un.mk op eff cost makes (needsL vars l2 (needsL vars l1 [])))]).length ∧
   Sat w0 w' (RowsAt tInt 3 ss' (nedR (U++[(Un.mk op eff cost makes (needsL vars l2 (needsL vars l1 [])))]) N)::OS tVal 22 nv ss'::Box pr 134 [c0,c1,c2,c3,fv,.int .i64 (N:Int),uv',nv,frv']::OS tInt 3 fv (fstL vars vars.length)::OS tUn 138 uv' us'::RdH (UnF us' (U++[(Un.mk op eff cost makes (needsL vars l2 (needsL vars l1 [])))]))::OS tInt 3 frv' (freL (U++[(Un.mk op eff cost makes (needsL vars l2 (needsL vars l1 [])))]))::Γ):=by
 have hss:=hw.rowsLen
 refine qab (args:=[.pointer (some pr),.agg #[.int .i64 op,.int .i64 eff,.int .i64 cost,.int .i64 makes,.slice none 0 0],v1,v2]) mixed Tryz.func67 rfl (by kernel_rfl) (Nat.le_of_ble_eq_true rfl) ?_
 repeat (first|refine qaa ?_|(refine qaf ?_;clear hw;intro p w hw))
 obtain⟨p5,hp5⟩:∃ p5,p5=p:=⟨p,rfl⟩
 subst hp5
 have e1:=h1.cells1
 have e2:=h2.cells1
 have s1:v1.cells.size=1:=by rw [←Array.length_toList,e1];rfl
 have s2:v2.cells.size=1:=by rw [←Array.length_toList,e2];rfl
 refine qaU (T:=tVal) [v1,v2] [v1,v2] rfl (by simp only [List.flatMap_cons,e1,e2,List.flatMap_nil];rfl) (by simp [s1,s2]) rfl rfl (by decide) (by decide) (by decide) hw ?_
 clear hw
 intro lv w hw
 obtain⟨Ls,hLs⟩:∃ Ls:List (List Fact),Ls=[l1,l2]:=⟨_,rfl⟩
 have hLl:Ls.length=2:=by rw [hLs];rfl
 have hrow:∀ i,i<2→RS tFact w0 (vget [v1,v2] i) (Ls.getD i [])∧(∀ f∈Ls.getD i [],FactOk vars f)∧(Ls.getD i []).length≤64:=fun i hi=>by
  rw [hLs]
  match i,hi with
  | 0,_=>exact⟨by rw [qay];exact h1,k1,n1⟩
  | 1,_=>exact⟨by rw [qay];exact h2,k2,n2⟩
 have hval:accN vars Ls 2=needsL vars l2 (needsL vars l1 []):=by rw [hLs];rfl
 have hw1:Sat w0 w (OS tInt 3 (.slice none 0 0) (accN vars Ls 0)::Box p5 138 [.int .i64 op,.int .i64 eff,.int .i64 cost,.int .i64 makes,.slice none 0 0]::OS tVal 23 lv [v1,v2]::RowsAt tInt 3 ss (nedR U N)::OS tVal 22 nv ss::Box pr 134 [c0,c1,c2,c3,fv,.int .i64 (N:Int),uv,nv,frv]::OS tInt 3 fv (fstL vars vars.length)::OS tUn 138 uv us::RdH (UnF us U)::OS tInt 3 frv (freL U)::Γ):=Sat.nil (T:=tInt) (e:=3) hw.swap
 clear hw
 have hw:=hw1
 clear hw1
 repeat refine qaa ?_
 refine qao [9,11,12,20,21,22,23,24,25,26,27,28,29,30,31,32,33,34,35,36,37,38,39,40,41,42,43,44,45] (G:=Nat) (H:=Value) (fun i _=>[(20,.int .i64 i)]) (fun i nd w=>i≤2∧(accN vars Ls i).length≤64*i∧Sat w0 w (OS tInt 3 nd (accN vars Ls i)::Box p5 138 [.int .i64 op,.int .i64 eff,.int .i64 cost,.int .i64 makes,nd]::OS tVal 23 lv [v1,v2]::RowsAt tInt 3 ss (nedR U N)::OS tVal 22 nv ss::Box pr 134 [c0,c1,c2,c3,fv,.int .i64 (N:Int),uv,nv,frv]::OS tInt 3 fv (fstL vars vars.length)::OS tUn 138 uv us::RdH (UnF us U)::OS tInt 3 frv (freL U)::Γ)) (fun i _=>2-i) 0 (.slice none 0 0) (fun _ _=>rfl) ⟨rfl,trivial⟩ ⟨by omega,Nat.le_refl 0,hw⟩ ?_
 clear hw
 rintro σ i nd w ⟨hi,hal,hw⟩
 have hv2:[v1,v2].length=2:=rfl
 repeat refine qaa ?_
 refine go_if (fun g1 => ?_) (fun g1 => ?_)
 ·have hi2:i<2:=by omega
  obtain⟨r1,r2,r3⟩:=hrow i hi2
  repeat refine qaa ?_
  obtain⟨l,hl⟩:∃ l,l=Ls.getD i []:=⟨_,rfl⟩
  rw [←hl] at r1 r2 r3
  have hll:(Ls.getD i []).length=l.length:=by rw [hl]
  refine qao [11,12,26,27,28,29,30,31,32,33,34,35,36,37,38,39,40,41,42,43,44] (G:=Nat) (H:=Value) (fun k _=>[(26,.int .i64 k)]) (fun k nd w=>k≤l.length∧(needsL vars (l.take k) (accN vars Ls i)).length≤64*i+k∧Sat w0 w (OS tInt 3 nd (needsL vars (l.take k) (accN vars Ls i))::Box p5 138 [.int .i64 op,.int .i64 eff,.int .i64 cost,.int .i64 makes,nd]::OS tVal 23 lv [v1,v2]::RowsAt tInt 3 ss (nedR U N)::OS tVal 22 nv ss::Box pr 134 [c0,c1,c2,c3,fv,.int .i64 (N:Int),uv,nv,frv]::OS tInt 3 fv (fstL vars vars.length)::OS tUn 138 uv us::RdH (UnF us U)::OS tInt 3 frv (freL U)::Γ)) (fun k _=>l.length-k) 0 nd (fun _ _=>rfl) ⟨rfl,trivial⟩ ⟨by omega,by simpa [needsL] using hal,hw⟩ ?_
  clear hw
  rintro σ1 k nd1 w ⟨hk,hkl,hw⟩
  repeat refine qaa ?_
  refine go_if (fun g2 => ?_) (fun g2 => ?_)
  ·have hk2:k<l.length:=by omega
   have hfk:=r2 _ (qah tFact.dflt hk2)
   repeat (first|refine qaa ?_|(refine qaf ?_;clear hw;intro p w hw)|(refine qas ?_;clear hw;intro w hw))
   refine qad rfl (qcm (f:=l.getD k tFact.dflt) (boxRO (p:=pr) hw) (rsO (s:=fv) hw) hp hd hvl hfk) ?_
   rintro _ w' ⟨rfl,hk'⟩
   replace hw:=hw.call0 hk'
   clear hk'
   refine⟨_,rfl,?_⟩
   repeat refine qaa ?_
   refine qad rfl (qau (rsO (s:=nd1) hw)) ?_
   rintro _ w' ⟨rfl,hk'⟩
   replace hw:=hw.call0 hk'
   clear hk'
   refine⟨_,rfl,?_⟩
   obtain⟨q,hq⟩:∃ q,q=decide (numF vars (l.getD k tFact.dflt)∈needsL vars (l.take k) (accN vars Ls i)):=⟨_,rfl⟩
   rw [←hq]
   have hna:=qnN (needsL vars (l.take k) (accN vars Ls i)) (numF vars (l.getD k tFact.dflt))
   rw [←qcO hk2] at hna
   cases q
   ·have hin:=of_decide_eq_false hq.symm
    repeat (first|refine qaa ?_|(refine qas ?_;clear hw;intro w hw)|(refine qap ?_;clear hw;intro s w hw))
    refine⟨k+1,s,⟨rfl,trivial⟩,agr,⟨by omega,by omega,?_⟩,by omega⟩
    rw [qcO hk2,addN,if_neg hin]
    exact hw.tail.tail
   ·have hin:=of_decide_eq_true hq.symm
    repeat refine qaa ?_
    exact⟨k+1,nd1,⟨rfl,trivial⟩,agr,⟨by omega,by omega,by rw [qcO hk2,addN,if_pos hin];exact hw.tail⟩,by omega⟩
  have hke:k=l.length:=by omega
  subst hke
  rw [List.take_of_length_le (Nat.le_refl _),hl,←qk9 (by omega)] at hw hkl
  repeat refine qaa ?_
  exact⟨i+1,nd1,⟨rfl,trivial⟩,agr,⟨by omega,by omega,hw⟩,by omega⟩
 have hie:i=2:=by omega
 subst hie
 repeat refine qaa ?_
 rw [hval] at hw hal
 obtain⟨u,hu⟩:∃ u:Un,u=(Un.mk op eff cost makes (needsL vars l2 (needsL vars l1 []))):=⟨_,rfl⟩
 have hun:u.needs=needsL vars l2 (needsL vars l1 []):=by rw [hu]
 rw [←hu]
 rw [←hun] at hw hal
 have hvl2:(accN vars Ls 2).length=u.needs.length:=by rw [hval,hun]
 have hund:u.needs.Nodup:=by rw [hun];exact qbH (qbH List.nodup_nil _) _
 have hunr:∀ n∈u.needs,0≤n∧n<N:=fun n hn=>by
  rw [hun] at hn
  rw [hN]
  rcases qcB.1 hn with hn|⟨f,hf,rfl⟩
  ·rcases qcB.1 hn with hn|⟨f,hf,rfl⟩
   ·simp at hn
   ·exact qcA hp (k1 f hf)
  ·exact qcA hp (k2 f hf)
 rw [←qmt U u N] at hw
 refine qao [15,54,55,56,57,58,59,60,61,62,63,64,65,66,67,68,69,70,71,72,73,74] (G:=Nat) (H:=List Value) (fun j _=>[(54,.int .i64 j)]) (fun j ss w=>j≤u.needs.length∧ss.length=N∧Sat w0 w (RowsAt tInt 3 ss (nedI U u j N)::OS tVal 22 nv ss::OS tInt 3 nd u.needs::Box p5 138 [.int .i64 op,.int .i64 eff,.int .i64 cost,.int .i64 makes,nd]::OS tVal 23 lv [v1,v2]::Box pr 134 [c0,c1,c2,c3,fv,.int .i64 (N:Int),uv,nv,frv]::OS tInt 3 fv (fstL vars vars.length)::OS tUn 138 uv us::RdH (UnF us U)::OS tInt 3 frv (freL U)::Γ)) (fun j _=>u.needs.length-j) 0 ss (fun _ _=>rfl) ⟨rfl,trivial⟩ ⟨Nat.zero_le _,by rw [hss,qgN],?_⟩ ?_
 ·exact (hw.focus 4 rfl).focus 4 rfl
 clear hw
 rintro σ1 j ss w ⟨hj,hsl,hw⟩
 repeat refine qaa ?_
 refine go_if (fun g3 => ?_) (fun g3 => ?_)
 ·have hjl:j<u.needs.length:=by omega
  have hnr:=hunr _ (qah tInt.dflt hjl)
  repeat refine qaa ?_
  have hi:(u.needs.getD j tInt.dflt).toNat<(nedI U u j N).length:=by rw [qjS];omega
  replace hw:=hw.rowOut hi
  have hrl:=qiM U u j N (u.needs.getD j tInt.dflt).toNat
  refine qaD [.op 0,.op 1,.op 2,.op 3,.op 4,.op 5,.op 6,.op 7,.op 8,.op 9,.op 10,.op 11,.op 12,.op 13,.chk 3,.chk 8,.chk 11,.op 14,.chk 3,.op 15,.op 16] hw (by kernel_rfl) ?_;clear hw;intro w hw
  repeat (first|refine qaa ?_|(refine qag ?_;clear hw;intro w hw)|(refine qap ?_;clear hw;intro s w hw))
  replace hw:=Sat.rowIn hi (by rw [hsl,qjS]) hw.tail
  rw [hul,qoc hjl hund hunr] at hw
  exact⟨j+1,_,⟨rfl,trivial⟩,agr,⟨by omega,by rw [List.length_set];exact hsl,hw⟩,by omega⟩
 have hje:j=u.needs.length:=by omega
 subst hje
 rw [qob] at hw
 have hfl:=qjV U
 have ond:=(rsO (s:=nd) hw).one
 obtain⟨uu,huu⟩:∃ uu:UnV,uu=⟨op,eff,cost,makes,nd⟩:=⟨_,rfl⟩
 repeat refine qaa ?_
 refine go_if (fun g4 => ?_) (fun g4 => ?_)
 ·have hnil:u.needs=[]:=List.eq_nil_of_length_eq_zero (by omega)
  have hfr:freL (U++[u])=freL U++[(us.length:Int)]:=by rw [qhS,if_pos hnil,hul]
  repeat (first|refine qaa ?_|(refine qas ?_;clear hw;intro w hw)|(refine qap ?_;clear hw;intro s w hw))
  rw [←hfr] at hw
  refine qaD [.op 0,.op 1,.op 2,.op 3,.op 4,.op 5,.op 6,.chk 4,.op 7,.op 8,.op 9,.op 10] hw (by kernel_rfl) ?_;clear hw;intro w hw
  repeat refine qaa ?_
  refine qam tUn (x1:=uu) rfl (by rw [huu];rfl) rfl (Nat.le_of_ble_eq_true rfl) (Nat.zero_lt_succ _) hw ?_
  clear hw
  intro sl w hw
  have huo:∀ v∈tUn.enc uu,v.oneCell'=true:=by
   rw [huu]
   intro v hv
   simp only [tUn,List.mem_cons,List.not_mem_nil,or_false] at hv
   rcases hv with rfl|rfl|rfl|rfl|rfl
   ·rfl
   ·rfl
   ·rfl
   ·rfl
   ·exact ond
  repeat refine qaa ?_
  refine qaY (s:=uv) (s2:=sl) inferInstance rfl rfl (rsO hw) rfl rfl (fun x hx v hv=>by rw [List.mem_singleton.1 hx] at hv;exact huo v hv) (by simp only [List.length_cons,List.length_nil];omega) (by unfold big;simp only [List.length_cons,List.length_nil];omega) hw ?_
  clear hw
  intro uv2 w hw
  repeat (first|refine qaa ?_|(refine qas ?_;clear hw;intro w hw))
  obtain⟨fr2,hfr2⟩:∃ fr2,fr2=s:=⟨s,rfl⟩
  subst hfr2
  have hw1:Sat w0 w (RowsAt tInt 3 ss (nedR (U++[u]) N)::OS tVal 22 nv ss::OS tInt 3 nd u.needs::Box p5 138 [.int .i64 op,.int .i64 eff,.int .i64 cost,.int .i64 makes,nd]::OS tVal 23 lv [v1,v2]::Box pr 134 [c0,c1,c2,c3,fv,.int .i64 (N:Int),uv2,nv,fr2]::OS tInt 3 fv (fstL vars vars.length)::OS tUn 138 uv2 (us++[uu])::RdH (UnF us U)::OS tInt 3 fr2 (freL (U++[u]))::Γ):=hw.tail.tail
  exact qaA rfl ⟨rfl,uv2,fr2,us++[uu],ss,by simp [hul],Sat.selG (Sat.rd (Δ:=[OS tInt 3 nd u.needs,RdH (UnF us U)]) (Γ:=RowsAt tInt 3 ss (nedR (U++[u]) N)::OS tVal 22 nv ss::Box pr 134 [c0,c1,c2,c3,fv,.int .i64 (N:Int),uv2,nv,fr2]::OS tInt 3 fv (fstL vars vars.length)::OS tUn 138 uv2 (us++[uu])::OS tInt 3 fr2 (freL (U++[u]))::Γ) (φ:=UnF (us++[uu]) (U++[u])) (fun _ w h=>(h.rdE 1 rfl).snoc hul (by rw [huu,hu];exact⟨rfl,rfl,rfl,rfl,by rw [←hun];exact h.rs 0 rfl⟩)) (show Sat w0 w (OS tInt 3 nd u.needs::RdH (UnF us U)::RowsAt tInt 3 ss (nedR (U++[u]) N)::OS tVal 22 nv ss::Box pr 134 [c0,c1,c2,c3,fv,.int .i64 (N:Int),uv2,nv,fr2]::OS tInt 3 fv (fstL vars vars.length)::OS tUn 138 uv2 (us++[uu])::OS tInt 3 fr2 (freL (U++[u]))::Γ) from Sat.selG hw1))⟩
 ·have hnil:u.needs≠[]:=fun e=>g4 (by rw [e];rfl)
  have hfr:freL (U++[u])=freL U:=by rw [qhS,if_neg hnil,List.append_nil]
  repeat refine qaa ?_
  rw [←hfr] at hw
  refine qaD [.op 0,.op 1,.op 2,.op 3,.op 4,.op 5,.op 6,.chk 4,.op 7,.op 8,.op 9,.op 10] hw (by kernel_rfl) ?_;clear hw;intro w hw
  repeat refine qaa ?_
  refine qam tUn (x1:=uu) rfl (by rw [huu];rfl) rfl (Nat.le_of_ble_eq_true rfl) (Nat.zero_lt_succ _) hw ?_
  clear hw
  intro sl w hw
  have huo:∀ v∈tUn.enc uu,v.oneCell'=true:=by
   rw [huu]
   intro v hv
   simp only [tUn,List.mem_cons,List.not_mem_nil,or_false] at hv
   rcases hv with rfl|rfl|rfl|rfl|rfl
   ·rfl
   ·rfl
   ·rfl
   ·rfl
   ·exact ond
  repeat refine qaa ?_
  refine qaY (s:=uv) (s2:=sl) inferInstance rfl rfl (rsO hw) rfl rfl (fun x hx v hv=>by rw [List.mem_singleton.1 hx] at hv;exact huo v hv) (by simp only [List.length_cons,List.length_nil];omega) (by unfold big;simp only [List.length_cons,List.length_nil];omega) hw ?_
  clear hw
  intro uv2 w hw
  repeat (first|refine qaa ?_|(refine qas ?_;clear hw;intro w hw))
  have hw1:Sat w0 w (RowsAt tInt 3 ss (nedR (U++[u]) N)::OS tVal 22 nv ss::OS tInt 3 nd u.needs::Box p5 138 [.int .i64 op,.int .i64 eff,.int .i64 cost,.int .i64 makes,nd]::OS tVal 23 lv [v1,v2]::Box pr 134 [c0,c1,c2,c3,fv,.int .i64 (N:Int),uv2,nv,frv]::OS tInt 3 fv (fstL vars vars.length)::OS tUn 138 uv2 (us++[uu])::RdH (UnF us U)::OS tInt 3 frv (freL (U++[u]))::Γ):=hw.tail
  exact qaA rfl ⟨rfl,uv2,frv,us++[uu],ss,by simp [hul],Sat.selG (Sat.rd (Δ:=[OS tInt 3 nd u.needs,RdH (UnF us U)]) (Γ:=RowsAt tInt 3 ss (nedR (U++[u]) N)::OS tVal 22 nv ss::Box pr 134 [c0,c1,c2,c3,fv,.int .i64 (N:Int),uv2,nv,frv]::OS tInt 3 fv (fstL vars vars.length)::OS tUn 138 uv2 (us++[uu])::OS tInt 3 frv (freL (U++[u]))::Γ) (φ:=UnF (us++[uu]) (U++[u])) (fun _ w h=>(h.rdE 1 rfl).snoc hul (by rw [huu,hu];exact⟨rfl,rfl,rfl,rfl,by rw [←hun];exact h.rs 0 rfl⟩)) (show Sat w0 w (OS tInt 3 nd u.needs::RdH (UnF us U)::RowsAt tInt 3 ss (nedR (U++[u]) N)::OS tVal 22 nv ss::Box pr 134 [c0,c1,c2,c3,fv,.int .i64 (N:Int),uv2,nv,frv]::OS tInt 3 fv (fstL vars vars.length)::OS tUn 138 uv2 (us++[uu])::OS tInt 3 frv (freL (U++[u]))::Γ) from Sat.selG hw1))⟩
end Go.Proofs.YtggdgcmjcahbbaaGreatDoor
