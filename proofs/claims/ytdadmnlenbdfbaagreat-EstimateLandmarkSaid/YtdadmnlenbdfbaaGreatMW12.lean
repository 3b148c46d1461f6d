/-
  Several texts as one: WRlxN, WRlxNew, WRlxHeap, WRlxV.
-/
import Derived.Test.YtdadmnlenbdfbaaGreatMTA
import Derived.Test.YtdadmnlenbdfbaaGreatMW2
import Derived.Test.YtdadmnlenbdfbaaGreatMW1
import Derived.Test.YtdadmnlenbdfbaaGreatMSlB
import Derived.Test.YtdadmnlenbdfbaaGreatMW4
set_option linter.unusedSimpArgs false
set_option linter.unusedVariables false
/-
  Contracts of the relaxation's 'number' and 'add'.
-/
namespace Go.Proofs.YtdadmnlenbdfbaaGreat
open Go.Sl Go
attribute [local irreducible] vc opsW opsD opV opW PureV ReadV Thn Blk
theorem qlq {vars:List Int}(hp:∀ x∈vars,1≤x) (hd:∀ i,i<vars.length→vars.getD i tInt.dflt≤64) (hvl:vars.length≤64) {i:Nat}(h:i<vars.length):(fstL vars vars.length).getD i tInt.dflt=firstV vars i∧0≤firstV vars i∧firstV vars i≤4096:=by
 have h1:=qbT hp (b:=i) (by omega)
 have h2:=qcE hd (b:=i) (by omega)
 exact⟨ql7 h,h1,by omega⟩
set_option maxRecDepth 8000 in
theorem qb6 {w0:World}{pr:Addr}{vars:List Int}{c0 c1 c2 c3 fv c5 c6 c7 c8:Value}{f:Fact}(hr:BoxR w0 pr [c0,c1,c2,c3,fv,c5,c6,c7,c8]) (hf:RS tInt w0 fv (fstL vars vars.length)) (hp:∀ x∈vars,1≤x) (hd:∀ i,i<vars.length→vars.getD i tInt.dflt≤64) (hvl:vars.length≤64) (hx:FactOk vars f) :
  Calls Tryz.prog 55 #[.pointer (some pr),.agg #[.int .i64 f.var,.int .i64 f.val]] w0 fun e w'=>e=.returned (.int .i64 (numF vars f))∧Sat w0 w' []:=by
 obtain⟨x0,x1,x2,x3⟩:=hx
 have hv:f.var.toNat<vars.length:=by omega
 obtain⟨g0,g1,g2⟩:=qlq hp hd hvl hv
 have g3:=hd _ hv
 have hl:=qfa vars vars.length
 have hw:=Sat.start w0
 refine qaf (args:=[.pointer (some pr),.agg #[.int .i64 f.var,.int .i64 f.val]]) mixed Tryz.func55 rfl (by kernel_rfl) (Nat.le_of_ble_eq_true rfl) ?_
 repeat (first|refine qac ?_|(refine qaa ?_;clear hw;intro p w hw)|(refine qad ?_;clear hw;intro w hw)|(refine qab ?_;clear hw;intro s w hw))
 exact qai (v:=.int .i64 ((fstL vars vars.length).getD f.var.toNat tInt.dflt+f.val)) rfl rfl ⟨by rw [g0];rfl,hw.sel⟩
def accN (vars:List Int) (Ls:List (List Fact)) (i:Nat):List Int:=(Ls.take i).foldl (fun acc l=>needsL vars l acc) []
theorem qi5 {vars:List Int}{Ls:List (List Fact)}{i:Nat}(h:i<Ls.length):accN vars Ls (i+1)=needsL vars (Ls.getD i []) (accN vars Ls i):=by
 unfold accN
 rw [qav [] h,List.foldl_append];rfl
theorem qcq {vars:List Int}{acc:List Int}{l:List Fact}{k:Nat}(h:k<l.length):needsL vars (l.take (k+1)) acc=addN (needsL vars (l.take k) acc) (numF vars (l.getD k tFact.dflt)):=by
 rw [qav tFact.dflt h,qcn]
theorem qh5 {α:Type}{T:Ty α}{xs:List α}{x:α}{i:Nat}(h:i<xs.length):eget T (xs++[x]) i=eget T xs i:=by
 rw [qaA,qaA];simp [List.getD_eq_getElem?_getD,List.getElem?_append_left h]
theorem qh6 {α:Type}{T:Ty α}{xs:List α}{x:α}{i:Nat}(h:i=xs.length):eget T (xs++[x]) i=x:=by
 rw [qaA];subst h;simp [List.getD_eq_getElem?_getD]
theorem UnF.snoc {us:List UnV}{U:List Un}{v:UnV}{u:Un}{w:World}(h:UnF us U w) (hl:us.length=U.length) (hv:RUn w v u):UnF (us++[v]) (U++[u]) w:=fun i hi=>by
 by_cases e:i<U.length
 ·rw [qh5 (by omega),qgA e];exact h i e
 ·have e2:i=U.length:=by rw [List.length_append,List.length_singleton] at hi;omega
  rw [qh6 (by omega),e2,qgB];exact hv
set_option maxRecDepth 8000 in
set_option maxHeartbeats 8000000 in
theorem qj3 {w0 w:World}{Γ:List HP}{pr:Addr}{c0 c1 c2 c3 fv uv nv frv v1 v2:Value}{us:List UnV}{ss:List Value}{U:List Un}{vars:List Int}{N:Nat}{op eff cost makes:Int}{l1 l2:List Fact}
  (hp:∀ x∈vars,1≤x) (hd:∀ i,i<vars.length→vars.getD i tInt.dflt≤64) (hvl:vars.length≤64) (hN:(N:Int)=firstV vars vars.length) (hN2:N≤4096) (hUl:U.length≤1048576)
  (h1:RS tFact w0 v1 l1) (h2:RS tFact w0 v2 l2) (k1:∀ f∈l1,FactOk vars f) (k2:∀ f∈l2,FactOk vars f) (n1:l1.length≤64) (n2:l2.length≤64) (hul:us.length=U.length)
  (hw:Sat w0 w (RowsAt tInt 3 ss (nedR U N)::OS tVal 22 nv ss::Box pr 116 [c0,c1,c2,c3,fv,.int .i64 (N:Int),uv,nv,frv]::OS tInt 3 fv (fstL vars vars.length)::OS tUn 120 uv us::RdH (UnF us U)::OS tInt 3 frv (freL U)::Γ)) :
  Calls Tryz.prog 54 #[.pointer (some pr),.agg #[.int .i64 op,.int .i64 eff,.int .i64 cost,.int .i64 makes,.slice none 0 0],v1,v2] w fun e w'=>e=.returned (.tuple #[])∧∃ uv' frv' us' ss',us'.length=(U++[(Un.mk op eff cost makes (needsL vars l2 (needsL vars l1 [])))]).length ∧
   Sat w0 w' (RowsAt tInt 3 ss' (nedR (U++[(Un.mk op eff cost makes (needsL vars l2 (needsL vars l1 [])))]) N)::OS tVal 22 nv ss'::Box pr 116 [c0,c1,c2,c3,fv,.int .i64 (N:Int),uv',nv,frv']::OS tInt 3 fv (fstL vars vars.length)::OS tUn 120 uv' us'::RdH (UnF us' (U++[(Un.mk op eff cost makes (needsL vars l2 (needsL vars l1 [])))]))::OS tInt 3 frv' (freL (U++[(Un.mk op eff cost makes (needsL vars l2 (needsL vars l1 [])))]))::Γ):=by
 have hss:=hw.rowsLen
 refine qaf (args:=[.pointer (some pr),.agg #[.int .i64 op,.int .i64 eff,.int .i64 cost,.int .i64 makes,.slice none 0 0],v1,v2]) mixed Tryz.func54 rfl (by kernel_rfl) (Nat.le_of_ble_eq_true rfl) ?_
 repeat (first|refine qac ?_|(refine qaa ?_;clear hw;intro p w hw)|(refine qae ?_;clear hw;intro w hw)|(refine qab ?_;clear hw;intro s w hw))
 obtain⟨p5,hp5⟩:∃ p5,p5=p:=⟨p,rfl⟩
 subst hp5
 have e1:=h1.cells1
 have e2:=h2.cells1
 have s1:v1.cells.size=1:=by rw [←Array.length_toList,e1];rfl
 have s2:v2.cells.size=1:=by rw [←Array.length_toList,e2];rfl
 refine qbP (T:=tVal) [v1,v2] [v1,v2] rfl (by simp only [List.flatMap_cons,e1,e2,List.flatMap_nil];rfl) (by simp [s1,s2]) rfl rfl (by decide) (by decide) (by decide) hw ?_
 clear hw
 intro lv w hw
 obtain⟨Ls,hLs⟩:∃ Ls:List (List Fact),Ls=[l1,l2]:=⟨_,rfl⟩
 have hLl:Ls.length=2:=by rw [hLs];rfl
 have hrow:∀ i,i<2→RS tFact w0 (vget [v1,v2] i) (Ls.getD i [])∧(∀ f∈Ls.getD i [],FactOk vars f)∧(Ls.getD i []).length≤64:=fun i hi=>by
  rw [hLs]
  match i,hi with
  | 0,_=>exact⟨by rw [qaV];exact h1,k1,n1⟩
  | 1,_=>exact⟨by rw [qaV];exact h2,k2,n2⟩
 have hval:accN vars Ls 2=needsL vars l2 (needsL vars l1 []):=by rw [hLs];rfl
 have hw1:Sat w0 w (OS tInt 3 (.slice none 0 0) (accN vars Ls 0)::Box p5 120 [.int .i64 op,.int .i64 eff,.int .i64 cost,.int .i64 makes,.slice none 0 0]::OS tVal 23 lv [v1,v2]::RowsAt tInt 3 ss (nedR U N)::OS tVal 22 nv ss::Box pr 116 [c0,c1,c2,c3,fv,.int .i64 (N:Int),uv,nv,frv]::OS tInt 3 fv (fstL vars vars.length)::OS tUn 120 uv us::RdH (UnF us U)::OS tInt 3 frv (freL U)::Γ):=Sat.nil (T:=tInt) (e:=3) hw.swap
 clear hw
 have hw:=hw1
 clear hw1
 repeat (first|refine qac ?_|(refine qaa ?_;clear hw;intro p w hw)|(refine qae ?_;clear hw;intro w hw)|(refine qab ?_;clear hw;intro s w hw))
 refine qat [9,11,12,20,21,22,23,24,25,26,27,28,29,30,31,32,33,34,35,36,37,38,39,40,41,42,43,44,45] (G:=Nat) (H:=Value) (fun i _=>[(20,.int .i64 i)]) (fun i nd w=>i≤2∧(accN vars Ls i).length≤64*i∧Sat w0 w (OS tInt 3 nd (accN vars Ls i)::Box p5 120 [.int .i64 op,.int .i64 eff,.int .i64 cost,.int .i64 makes,nd]::OS tVal 23 lv [v1,v2]::RowsAt tInt 3 ss (nedR U N)::OS tVal 22 nv ss::Box pr 116 [c0,c1,c2,c3,fv,.int .i64 (N:Int),uv,nv,frv]::OS tInt 3 fv (fstL vars vars.length)::OS tUn 120 uv us::RdH (UnF us U)::OS tInt 3 frv (freL U)::Γ)) (fun i _=>2-i) 0 (.slice none 0 0) (fun _ _=>rfl) ⟨rfl,trivial⟩ ⟨by omega,Nat.le_refl 0,hw⟩ ?_
 clear hw
 rintro σ i nd w ⟨hi,hal,hw⟩
 have hv2:[v1,v2].length=2:=rfl
 repeat (first|refine qac ?_|(refine qaa ?_;clear hw;intro p w hw)|(refine qad ?_;clear hw;intro w hw)|(refine qab ?_;clear hw;intro s w hw))
 refine go_if (fun g1 => ?_) (fun g1 => ?_)
 ·have hi2:i<2:=by omega
  obtain⟨r1,r2,r3⟩:=hrow i hi2
  repeat (first|refine qac ?_|(refine qaa ?_;clear hw;intro p w hw)|(refine qae ?_;clear hw;intro w hw)|(refine qab ?_;clear hw;intro s w hw))
  obtain⟨l,hl⟩:∃ l,l=Ls.getD i []:=⟨_,rfl⟩
  rw [←hl] at r1 r2 r3
  have hll:(Ls.getD i []).length=l.length:=by rw [hl]
  refine qat [11,12,26,27,28,29,30,31,32,33,34,35,36,37,38,39,40,41,42,43,44] (G:=Nat) (H:=Value) (fun k _=>[(26,.int .i64 k)]) (fun k nd w=>k≤l.length∧(needsL vars (l.take k) (accN vars Ls i)).length≤64*i+k∧Sat w0 w (OS tInt 3 nd (needsL vars (l.take k) (accN vars Ls i))::Box p5 120 [.int .i64 op,.int .i64 eff,.int .i64 cost,.int .i64 makes,nd]::OS tVal 23 lv [v1,v2]::RowsAt tInt 3 ss (nedR U N)::OS tVal 22 nv ss::Box pr 116 [c0,c1,c2,c3,fv,.int .i64 (N:Int),uv,nv,frv]::OS tInt 3 fv (fstL vars vars.length)::OS tUn 120 uv us::RdH (UnF us U)::OS tInt 3 frv (freL U)::Γ)) (fun k _=>l.length-k) 0 nd (fun _ _=>rfl) ⟨rfl,trivial⟩ ⟨by omega,by simpa [needsL] using hal,hw⟩ ?_
  clear hw
  rintro σ1 k nd1 w ⟨hk,hkl,hw⟩
  repeat (first|refine qac ?_|(refine qaa ?_;clear hw;intro p w hw)|(refine qad ?_;clear hw;intro w hw)|(refine qab ?_;clear hw;intro s w hw))
  refine go_if (fun g2 => ?_) (fun g2 => ?_)
  ·have hk2:k<l.length:=by omega
   have hfk:=r2 _ (qan tFact.dflt hk2)
   repeat (first|refine qac ?_|(refine qaa ?_;clear hw;intro p w hw)|(refine qae ?_;clear hw;intro w hw)|(refine qab ?_;clear hw;intro s w hw))
   refine qag rfl (qb6 (f:=l.getD k tFact.dflt) (boxRO (p:=pr) hw) (rsO (s:=fv) hw) hp hd hvl hfk) ?_
   rintro _ w' ⟨rfl,hk'⟩
   replace hw:=hw.call0 hk'
   clear hk'
   refine⟨_,rfl,?_⟩
   repeat (first|refine qac ?_|(refine qaa ?_;clear hw;intro p w hw)|(refine qae ?_;clear hw;intro w hw)|(refine qab ?_;clear hw;intro s w hw))
   refine qag rfl (qc6 (rsO (s:=nd1) hw)) ?_
   rintro _ w' ⟨rfl,hk'⟩
   replace hw:=hw.call0 hk'
   clear hk'
   refine⟨_,rfl,?_⟩
   obtain⟨q,hq⟩:∃ q,q=decide (numF vars (l.getD k tFact.dflt)∈needsL vars (l.take k) (accN vars Ls i)):=⟨_,rfl⟩
   rw [←hq]
   have hna:=qki (needsL vars (l.take k) (accN vars Ls i)) (numF vars (l.getD k tFact.dflt))
   rw [←qcq hk2] at hna
   cases q
   ·have hin:=of_decide_eq_false hq.symm
    repeat (first|refine qac ?_|(refine qaa ?_;clear hw;intro p w hw)|(refine qae ?_;clear hw;intro w hw)|(refine qab ?_;clear hw;intro s w hw))
    refine⟨k+1,s,⟨rfl,trivial⟩,agr,⟨by omega,by omega,?_⟩,by omega⟩
    rw [qcq hk2,addN,if_neg hin]
    exact hw.tail.tail
   ·have hin:=of_decide_eq_true hq.symm
    repeat (first|refine qac ?_|(refine qaa ?_;clear hw;intro p w hw)|(refine qae ?_;clear hw;intro w hw)|(refine qab ?_;clear hw;intro s w hw))
    exact⟨k+1,nd1,⟨rfl,trivial⟩,agr,⟨by omega,by omega,by rw [qcq hk2,addN,if_pos hin];exact hw.tail⟩,by omega⟩
  have hke:k=l.length:=by omega
  subst hke
  rw [List.take_of_length_le (Nat.le_refl _),hl,←qi5 (by omega)] at hw hkl
  repeat (first|refine qac ?_|(refine qaa ?_;clear hw;intro p w hw)|(refine qae ?_;clear hw;intro w hw)|(refine qab ?_;clear hw;intro s w hw))
  exact⟨i+1,nd1,⟨rfl,trivial⟩,agr,⟨by omega,by omega,hw⟩,by omega⟩
 have hie:i=2:=by omega
 subst hie
 repeat (first|refine qac ?_|(refine qaa ?_;clear hw;intro p w hw)|(refine qae ?_;clear hw;intro w hw)|(refine qab ?_;clear hw;intro s w hw))
 rw [hval] at hw hal
 obtain⟨u,hu⟩:∃ u:Un,u=(Un.mk op eff cost makes (needsL vars l2 (needsL vars l1 []))):=⟨_,rfl⟩
 have hun:u.needs=needsL vars l2 (needsL vars l1 []):=by rw [hu]
 rw [←hu]
 rw [←hun] at hw hal
 have hvl2:(accN vars Ls 2).length=u.needs.length:=by rw [hval,hun]
 have hund:u.needs.Nodup:=by rw [hun];exact qbm (qbm List.nodup_nil _) _
 have hunr:∀ n∈u.needs,0≤n∧n<N:=fun n hn=>by
  rw [hun] at hn
  rw [hN]
  rcases qb9.1 hn with hn|⟨f,hf,rfl⟩
  ·rcases qb9.1 hn with hn|⟨f,hf,rfl⟩
   ·simp at hn
   ·exact qb8 hp (k1 f hf)
  ·exact qb8 hp (k2 f hf)
 rw [←qjb U u N] at hw
 refine qat [15,54,55,56,57,58,59,60,61,62,63,64,65,66,67,68,69,70,71,72,73,74] (G:=Nat) (H:=List Value) (fun j _=>[(54,.int .i64 j)]) (fun j ss w=>j≤u.needs.length∧ss.length=N∧Sat w0 w (RowsAt tInt 3 ss (nedI U u j N)::OS tVal 22 nv ss::OS tInt 3 nd u.needs::Box p5 120 [.int .i64 op,.int .i64 eff,.int .i64 cost,.int .i64 makes,nd]::OS tVal 23 lv [v1,v2]::Box pr 116 [c0,c1,c2,c3,fv,.int .i64 (N:Int),uv,nv,frv]::OS tInt 3 fv (fstL vars vars.length)::OS tUn 120 uv us::RdH (UnF us U)::OS tInt 3 frv (freL U)::Γ)) (fun j _=>u.needs.length-j) 0 ss (fun _ _=>rfl) ⟨rfl,trivial⟩ ⟨Nat.zero_le _,by rw [hss,qfb],?_⟩ ?_
 ·exact (hw.focus 4 rfl).focus 4 rfl
 clear hw
 rintro σ1 j ss w ⟨hj,hsl,hw⟩
 repeat (first|refine qac ?_|(refine qaa ?_;clear hw;intro p w hw)|(refine qad ?_;clear hw;intro w hw)|(refine qab ?_;clear hw;intro s w hw))
 refine go_if (fun g3 => ?_) (fun g3 => ?_)
 ·have hjl:j<u.needs.length:=by omega
  have hnr:=hunr _ (qan tInt.dflt hjl)
  repeat (first|refine qac ?_|(refine qaa ?_;clear hw;intro p w hw)|(refine qae ?_;clear hw;intro w hw)|(refine qab ?_;clear hw;intro s w hw))
  have hi:(u.needs.getD j tInt.dflt).toNat<(nedI U u j N).length:=by rw [qhw];omega
  replace hw:=hw.rowOut hi
  have hrl:=qgz U u j N (u.needs.getD j tInt.dflt).toNat
  refine qay [.op 0,.op 1,.op 2,.op 3,.op 4,.op 5,.op 6,.op 7,.op 8,.op 9,.op 10,.op 11,.op 12,.op 13,.chk 3,.chk 8,.chk 11,.op 14,.chk 3,.op 15,.op 16] hw (by kernel_rfl) ?_;clear hw;intro w hw
  repeat (first|refine qac ?_|(refine qaa ?_;clear hw;intro p w hw)|(refine qad ?_;clear hw;intro w hw)|(refine qab ?_;clear hw;intro s w hw))
  replace hw:=Sat.rowIn hi (by rw [hsl,qhw]) hw.tail
  rw [hul,qkB hjl hund hunr] at hw
  exact⟨j+1,_,⟨rfl,trivial⟩,agr,⟨by omega,by rw [List.length_set];exact hsl,hw⟩,by omega⟩
 have hje:j=u.needs.length:=by omega
 subst hje
 rw [qkA] at hw
 have hfl:=qhz U
 have ond:=(rsO (s:=nd) hw).one
 obtain⟨uu,huu⟩:∃ uu:UnV,uu=⟨op,eff,cost,makes,nd⟩:=⟨_,rfl⟩
 repeat (first|refine qac ?_|(refine qaa ?_;clear hw;intro p w hw)|(refine qae ?_;clear hw;intro w hw)|(refine qab ?_;clear hw;intro s w hw))
 refine go_if (fun g4 => ?_) (fun g4 => ?_)
 ·have hnil:u.needs=[]:=List.eq_nil_of_length_eq_zero (by omega)
  have hfr:freL (U++[u])=freL U++[(us.length:Int)]:=by rw [qfL,if_pos hnil,hul]
  repeat (first|refine qac ?_|(refine qaa ?_;clear hw;intro p w hw)|(refine qae ?_;clear hw;intro w hw)|(refine qab ?_;clear hw;intro s w hw))
  rw [←hfr] at hw
  refine qay [.op 0,.op 1,.op 2,.op 3,.op 4,.op 5,.op 6,.chk 4,.op 7,.op 8,.op 9,.op 10] hw (by kernel_rfl) ?_;clear hw;intro w hw
  repeat (first|refine qac ?_|(refine qaa ?_;clear hw;intro p w hw)|(refine qae ?_;clear hw;intro w hw)|(refine qab ?_;clear hw;intro s w hw))
  refine qal tUn (x1:=uu) rfl (by rw [huu];rfl) rfl (Nat.le_of_ble_eq_true rfl) (Nat.zero_lt_succ _) hw ?_
  clear hw
  intro sl w hw
  have huo:∀ v∈tUn.enc uu,v.oneCell'=true:=by
   rw [huu]
   intro v hv
   simp only [tUn,List.mem_cons,List.not_mem_nil,or_false] at hv
   rcases hv with rfl|rfl|rfl|rfl|rfl
   ·rfl
   ·rfl
   ·rfl
   ·rfl
   ·exact ond
  repeat (first|refine qac ?_|(refine qaa ?_;clear hw;intro p w hw)|(refine qae ?_;clear hw;intro w hw)|(refine qab ?_;clear hw;intro s w hw))
  refine qaM (s:=uv) (s2:=sl) inferInstance rfl rfl (rsO hw) rfl rfl (fun x hx v hv=>by rw [List.mem_singleton.1 hx] at hv;exact huo v hv) (by simp only [List.length_cons,List.length_nil];omega) (by unfold big;simp only [List.length_cons,List.length_nil];omega) hw ?_
  clear hw
  intro uv2 w hw
  repeat (first|refine qac ?_|(refine qaa ?_;clear hw;intro p w hw)|(refine qae ?_;clear hw;intro w hw)|(refine qab ?_;clear hw;intro s w hw))
  obtain⟨fr2,hfr2⟩:∃ fr2,fr2=s:=⟨s,rfl⟩
  subst hfr2
  have hw1:Sat w0 w (RowsAt tInt 3 ss (nedR (U++[u]) N)::OS tVal 22 nv ss::OS tInt 3 nd u.needs::Box p5 120 [.int .i64 op,.int .i64 eff,.int .i64 cost,.int .i64 makes,nd]::OS tVal 23 lv [v1,v2]::Box pr 116 [c0,c1,c2,c3,fv,.int .i64 (N:Int),uv2,nv,fr2]::OS tInt 3 fv (fstL vars vars.length)::OS tUn 120 uv2 (us++[uu])::RdH (UnF us U)::OS tInt 3 fr2 (freL (U++[u]))::Γ):=hw.tail.tail
  exact qa0 rfl ⟨rfl,uv2,fr2,us++[uu],ss,by simp [hul],Sat.selG (Sat.rd (Δ:=[OS tInt 3 nd u.needs,RdH (UnF us U)]) (Γ:=RowsAt tInt 3 ss (nedR (U++[u]) N)::OS tVal 22 nv ss::Box pr 116 [c0,c1,c2,c3,fv,.int .i64 (N:Int),uv2,nv,fr2]::OS tInt 3 fv (fstL vars vars.length)::OS tUn 120 uv2 (us++[uu])::OS tInt 3 fr2 (freL (U++[u]))::Γ) (φ:=UnF (us++[uu]) (U++[u])) (fun _ w h=>(h.rdE 1 rfl).snoc hul (by rw [huu,hu];exact⟨rfl,rfl,rfl,rfl,by rw [←hun];exact h.rs 0 rfl⟩)) (show Sat w0 w (OS tInt 3 nd u.needs::RdH (UnF us U)::RowsAt tInt 3 ss (nedR (U++[u]) N)::OS tVal 22 nv ss::Box pr 116 [c0,c1,c2,c3,fv,.int .i64 (N:Int),uv2,nv,fr2]::OS tInt 3 fv (fstL vars vars.length)::OS tUn 120 uv2 (us++[uu])::OS tInt 3 fr2 (freL (U++[u]))::Γ) from Sat.selG hw1))⟩
 ·have hnil:u.needs≠[]:=fun e=>g4 (by rw [e];rfl)
  have hfr:freL (U++[u])=freL U:=by rw [qfL,if_neg hnil,List.append_nil]
  repeat (first|refine qac ?_|(refine qaa ?_;clear hw;intro p w hw)|(refine qae ?_;clear hw;intro w hw)|(refine qab ?_;clear hw;intro s w hw))
  rw [←hfr] at hw
  refine qay [.op 0,.op 1,.op 2,.op 3,.op 4,.op 5,.op 6,.chk 4,.op 7,.op 8,.op 9,.op 10] hw (by kernel_rfl) ?_;clear hw;intro w hw
  repeat (first|refine qac ?_|(refine qaa ?_;clear hw;intro p w hw)|(refine qae ?_;clear hw;intro w hw)|(refine qab ?_;clear hw;intro s w hw))
  refine qal tUn (x1:=uu) rfl (by rw [huu];rfl) rfl (Nat.le_of_ble_eq_true rfl) (Nat.zero_lt_succ _) hw ?_
  clear hw
  intro sl w hw
  have huo:∀ v∈tUn.enc uu,v.oneCell'=true:=by
   rw [huu]
   intro v hv
   simp only [tUn,List.mem_cons,List.not_mem_nil,or_false] at hv
   rcases hv with rfl|rfl|rfl|rfl|rfl
   ·rfl
   ·rfl
   ·rfl
   ·rfl
   ·exact ond
  repeat (first|refine qac ?_|(refine qaa ?_;clear hw;intro p w hw)|(refine qae ?_;clear hw;intro w hw)|(refine qab ?_;clear hw;intro s w hw))
  refine qaM (s:=uv) (s2:=sl) inferInstance rfl rfl (rsO hw) rfl rfl (fun x hx v hv=>by rw [List.mem_singleton.1 hx] at hv;exact huo v hv) (by simp only [List.length_cons,List.length_nil];omega) (by unfold big;simp only [List.length_cons,List.length_nil];omega) hw ?_
  clear hw
  intro uv2 w hw
  repeat (first|refine qac ?_|(refine qaa ?_;clear hw;intro p w hw)|(refine qae ?_;clear hw;intro w hw)|(refine qab ?_;clear hw;intro s w hw))
  have hw1:Sat w0 w (RowsAt tInt 3 ss (nedR (U++[u]) N)::OS tVal 22 nv ss::OS tInt 3 nd u.needs::Box p5 120 [.int .i64 op,.int .i64 eff,.int .i64 cost,.int .i64 makes,nd]::OS tVal 23 lv [v1,v2]::Box pr 116 [c0,c1,c2,c3,fv,.int .i64 (N:Int),uv2,nv,frv]::OS tInt 3 fv (fstL vars vars.length)::OS tUn 120 uv2 (us++[uu])::RdH (UnF us U)::OS tInt 3 frv (freL (U++[u]))::Γ):=hw.tail
  exact qa0 rfl ⟨rfl,uv2,frv,us++[uu],ss,by simp [hul],Sat.selG (Sat.rd (Δ:=[OS tInt 3 nd u.needs,RdH (UnF us U)]) (Γ:=RowsAt tInt 3 ss (nedR (U++[u]) N)::OS tVal 22 nv ss::Box pr 116 [c0,c1,c2,c3,fv,.int .i64 (N:Int),uv2,nv,frv]::OS tInt 3 fv (fstL vars vars.length)::OS tUn 120 uv2 (us++[uu])::OS tInt 3 frv (freL (U++[u]))::Γ) (φ:=UnF (us++[uu]) (U++[u])) (fun _ w h=>(h.rdE 1 rfl).snoc hul (by rw [huu,hu];exact⟨rfl,rfl,rfl,rfl,by rw [←hun];exact h.rs 0 rfl⟩)) (show Sat w0 w (OS tInt 3 nd u.needs::RdH (UnF us U)::RowsAt tInt 3 ss (nedR (U++[u]) N)::OS tVal 22 nv ss::Box pr 116 [c0,c1,c2,c3,fv,.int .i64 (N:Int),uv2,nv,frv]::OS tInt 3 fv (fstL vars vars.length)::OS tUn 120 uv2 (us++[uu])::OS tInt 3 frv (freL (U++[u]))::Γ) from Sat.selG hw1))⟩
end Go.Proofs.YtdadmnlenbdfbaaGreat
/-
  Contract of 'relax.New' for a right task and no costs of its own.
-/
namespace Go.Proofs.YtdadmnlenbdfbaaGreat
open Go.Sl Go
attribute [local irreducible] vc opsW opsD opV opW PureV ReadV Thn Blk
structure RRlx (w:World) (pr:Addr) (t:TTask):Prop where
 ex:∃ a c fv uv nv frv us ss,BoxR w pr [a,.slice none 0 0,c,.slice none 0 0,fv,.int .i64 (factN t:Int),uv,nv,frv]∧RS tInt w a t.vars∧RS tFact w c t.goal∧RS tInt w fv (fstL t.vars t.vars.length)∧RS tUn w uv us∧us.length=(unT t).length∧UnF us (unT t) w∧RS tVal w nv ss∧ss.length=factN t∧(∀ f,f<factN t→RS tInt w (vget ss f) (nedL (unT t) f))∧RS tInt w frv (freL (unT t))
set_option maxRecDepth 8000 in
set_option maxHeartbeats 8000000 in
theorem qj9 {w0:World}{a b c d:Value}{vs:List OpV}{t:TTask}(ht:RTask w0 a b c d vs t) (hg:GoodT t) :
  Calls Tryz.prog 32 #[.agg #[a,b,c,d],.slice none 0 0] w0 fun e w'=>∃ p,e=.returned (.tuple #[.pointer (some p),.nilIface])∧Sat w0 w' [RdH fun w=>RRlx w p t]:=by
 have ht':=ht
 obtain⟨ha,hb,hc,hd⟩:=ht
 have hdr:=hd.rs
 have hdl:=hd.len
 have hvl:=hg.vars
 have hol:=hg.ops
 have hgl:=qaO hg.goal
 have hw:=Sat.start w0
 refine qaf (args:=[.agg #[a,b,c,d],.slice none 0 0]) mixed Tryz.func32 rfl (by kernel_rfl) (Nat.le_of_ble_eq_true rfl) ?_
 repeat (first|refine qac ?_|(refine qaa ?_;clear hw;intro p w hw)|(refine qae ?_;clear hw;intro w hw)|(refine qab ?_;clear hw;intro s w hw))
 obtain⟨pt,hpt⟩:∃ pt,pt=p:=⟨p,rfl⟩
 subst hpt
 refine qag rfl (qbG (ht'.at hw)) ?_
 rintro _ w' ⟨rfl,hk'⟩
 replace hw:=hw.call0 hk'
 clear hk'
 refine⟨_,rfl,?_⟩
 rw [qam ((qc2 t).2 hg)]
 replace hw:=hw.nil (T:=tInt) (e:=3)
 have hz:(([]:List Int).length:Int)=0:=rfl
 repeat (first|refine qac ?_|(refine qaa ?_;clear hw;intro p w hw)|(refine qae ?_;clear hw;intro w hw)|(refine qab ?_;clear hw;intro s w hw))
 refine qao [4,5,8,36,37,38,39,40,41,42,43,44,45,46,47] (G:=Unit) (fun _=>[(36,.int .i64 0)]) (fun _ w=>Sat w0 w [OS tInt 3 (.slice none 0 0) [],Box pt 26 [a,b,c,d]]) (fun _=>0) () (fun _=>rfl) ⟨rfl,trivial⟩ hw ?_
 clear hw
 rintro σ _ w hw
 repeat (first|refine qac ?_|(refine qaa ?_;clear hw;intro p w hw)|(refine qad ?_;clear hw;intro w hw)|(refine qab ?_;clear hw;intro s w hw))
 replace hw:=hw.tail
 refine qay [.op 0,.op 1,.op 3,.op 4,.op 2,.chk 4,.op 5,.op 6,.op 7,.op 8,.op 9] hw (by kernel_rfl) ?_;clear hw;intro w hw
 repeat (first|refine qac ?_|(refine qaa ?_;clear hw;intro p w hw)|(refine qae ?_;clear hw;intro w hw)|(refine qab ?_;clear hw;intro s w hw))
 refine qag rfl (qaZ (ha.at hw) (by omega)) ?_
 rintro _ w' ⟨a2,rfl,hk'⟩
 replace hw:=hw.call1 hk'
 clear hk'
 refine⟨_,rfl,?_⟩
 repeat (first|refine qac ?_|(refine qaa ?_;clear hw;intro p w hw)|(refine qae ?_;clear hw;intro w hw)|(refine qab ?_;clear hw;intro s w hw))
 refine qag rfl (qbi (hc.at hw) (by omega)) ?_
 rintro _ w' ⟨c2,rfl,hk'⟩
 replace hw:=hw.call1 hk'
 clear hk'
 refine⟨_,rfl,?_⟩
 repeat (first|refine qac ?_|(refine qaa ?_;clear hw;intro p w hw)|(refine qae ?_;clear hw;intro w hw)|(refine qab ?_;clear hw;intro s w hw))
 have oa:=(rsO (s:=a2) hw).one
 have oc:=(rsO (s:=c2) hw).one
 refine qbA (v1:=a2) (v2:=c2) rfl rfl rfl (by simp only [List.all_cons,List.all_nil,oa,oc];rfl) ?_
 repeat (first|refine qac ?_|(refine qaa ?_;clear hw;intro p w hw)|(refine qae ?_;clear hw;intro w hw)|(refine qab ?_;clear hw;intro s w hw))
 refine qau (vs:=[(0,.agg #[a2,.slice none 0 0,c2,.slice none 0 0])]) (ls:=[(0,[a2,.slice none 0 0,c2,.slice none 0 0])]) rfl rfl rfl ?_
 repeat (first|refine qac ?_|(refine qaa ?_;clear hw;intro p w hw)|(refine qae ?_;clear hw;intro w hw)|(refine qab ?_;clear hw;intro s w hw))
 obtain⟨pr,hpr⟩:∃ pr,pr=p:=⟨p,rfl⟩
 subst hpr
 replace hw:Sat w0 w [Box pr 116 [a2,.slice none 0 0,c2,.slice none 0 0,.slice none 0 0,.int .i64 0,.slice none 0 0,.slice none 0 0,.slice none 0 0],OS tFact 73 c2 t.goal,OS tInt 3 a2 t.vars,Box pt 26 [a,b,c,d]]:=hw
 replace hw:=hw.nil (T:=tInt) (e:=3)
 refine qat [11,60,61,62,63,64,65,66,67,68,69,70,71,72,73,74,75,76,77,78,79,80,81,82,83,84,85] (G:=Nat) (H:=Value) (fun k _=>[(60,.int .i64 k)]) (fun k fv w=>k≤t.vars.length∧Sat w0 w [OS tInt 3 fv (fstL t.vars k),Box pr 116 [a2,.slice none 0 0,c2,.slice none 0 0,fv,.int .i64 (firstV t.vars k),.slice none 0 0,.slice none 0 0,.slice none 0 0],OS tFact 73 c2 t.goal,OS tInt 3 a2 t.vars,Box pt 26 [a,b,c,d]]) (fun k _=>t.vars.length-k) 0 (.slice none 0 0) (fun _ _=>rfl) ⟨rfl,trivial⟩ ⟨Nat.zero_le _,hw⟩ ?_
 clear hw
 rintro σ k fv w ⟨hk,hw⟩
 have hfl:=qfa t.vars k
 repeat (first|refine qac ?_|(refine qaa ?_;clear hw;intro p w hw)|(refine qad ?_;clear hw;intro w hw)|(refine qab ?_;clear hw;intro s w hw))
 refine go_if (fun h1 => ?_) (fun h1 => ?_)
 ·have hkl:k<t.vars.length:=by omega
  have hdk:=hg.dom k hkl
  have hf0:=qbT hg.pos (b:=k) (by omega)
  have hf1:=qcE (fun i hi=>(hg.dom i hi).2) (b:=k) (by omega)
  repeat (first|refine qac ?_|(refine qaa ?_;clear hw;intro p w hw)|(refine qae ?_;clear hw;intro w hw)|(refine qab ?_;clear hw;intro s w hw))
  refine qay [.op 0,.op 1,.op 2,.op 3,.op 4,.op 5,.op 6,.op 7,.op 8,.op 9,.chk 4,.op 10,.op 11,.op 12,.op 13] hw (by kernel_rfl) ?_;clear hw;intro w hw
  repeat (first|refine qac ?_|(refine qaa ?_;clear hw;intro p w hw)|(refine qae ?_;clear hw;intro w hw)|(refine qab ?_;clear hw;intro s w hw))
  rw [←qja,←qbd hkl] at hw
  exact⟨k+1,s,⟨rfl,trivial⟩,agr,⟨by omega,hw.tail⟩,by omega⟩
 have hke:k=t.vars.length:=by omega
 subst hke
 rw [←qcF hg] at hw
 have hN:=qhg hg
 repeat (first|refine qac ?_|(refine qaa ?_;clear hw;intro p w hw)|(refine qae ?_;clear hw;intro w hw)|(refine qab ?_;clear hw;intro s w hw))
 obtain⟨nv,hnv⟩:∃ nv,nv=s:=⟨s,rfl⟩
 subst hnv
 have hw1:Sat w0 w (RowsAt tInt 3 (List.replicate (factN t) (.slice none 0 0)) (nedR (unK t 0) (factN t))::OS tVal 22 nv (List.replicate (factN t) (.slice none 0 0))::Box pr 116 [a2,.slice none 0 0,c2,.slice none 0 0,fv,.int .i64 (factN t:Int),(.slice none 0 0),nv,(.slice none 0 0)]::OS tInt 3 fv (fstL t.vars t.vars.length)::OS tUn 120 (.slice none 0 0) ([]:List UnV)::RdH (UnF ([]:List UnV) (unK t 0))::OS tInt 3 (.slice none 0 0) (freL (unK t 0))::OS tInt 3 (.slice none 0 0) []::OS tFact 73 c2 t.goal::OS tInt 3 a2 t.vars::[Box pt 26 [a,b,c,d]]):=by
  rw [Int.toNat_natCast] at hw
  have g1:Sat w0 w [OS tVal 22 nv (List.replicate (factN t) (.slice none 0 0)),OS tInt 3 fv (fstL t.vars t.vars.length),Box pr 116 [a2,.slice none 0 0,c2,.slice none 0 0,fv,.int .i64 (factN t:Int),.slice none 0 0,nv,.slice none 0 0],OS tFact 73 c2 t.goal,OS tInt 3 a2 t.vars,Box pt 26 [a,b,c,d]]:=hw
  have g2:=Sat.rd0 (φ:=UnF [] []) (fun w i hi=>absurd hi (Nat.not_lt_zero _)) ((((g1.nil (T:=tInt) (e:=3)).nil (T:=tInt) (e:=3)).nil (T:=tUn) (e:=120)).rowsNil (T:=tInt) (e:=3) (factN t))
  have hu0:unK t 0=[]:=by simp [unK]
  rw [←qkz] at g2
  rw [hu0,qkC]
  exact g2.selG
 clear hw
 have hw:=hw1
 clear hw1
 refine qao [12,13,14,15,16,97,98,99,100,101,102,103,104,105,106,107,108,109,110,111,112,113,114,115,116,117,118,119,120,121,122,123,124,125,126,127,128,129,130,131,132,133,134,135,136,137] (G:=Nat) (fun k=>[(97,.int .i64 k)]) (fun k w=>k≤t.ops.length∧∃ uv frv us ss,us.length=(unK t k).length∧Sat w0 w (RowsAt tInt 3 ss (nedR (unK t k) (factN t))::OS tVal 22 nv ss::Box pr 116 [a2,.slice none 0 0,c2,.slice none 0 0,fv,.int .i64 (factN t:Int),uv,nv,frv]::OS tInt 3 fv (fstL t.vars t.vars.length)::OS tUn 120 uv us::RdH (UnF us (unK t k))::OS tInt 3 frv (freL (unK t k))::OS tInt 3 (.slice none 0 0) []::OS tFact 73 c2 t.goal::OS tInt 3 a2 t.vars::[Box pt 26 [a,b,c,d]])) (fun k=>t.ops.length-k) 0 (fun _=>rfl) ⟨rfl,trivial⟩ ⟨Nat.zero_le _,_,_,_,_,rfl,hw⟩ ?_
 clear hw
 rintro σ1 k w ⟨hk,uv,frv,us,ss,hul,hw⟩
 repeat (first|refine qac ?_|(refine qaa ?_;clear hw;intro p w hw)|(refine qad ?_;clear hw;intro w hw)|(refine qab ?_;clear hw;intro s w hw))
 refine go_if (fun h2 => ?_) (fun h2 => ?_)
 ·have hkl:k<t.ops.length:=by omega
  have hop:=hd.at_ k hkl
  have hone:=hop.one
  have hpre:=hop.pre
  have hgo:=hg.op k hkl
  have hpl:=qaO hgo.pre
  have hel:=hgo.effs
  obtain⟨es,hes⟩:=hop.effs
  have hesr:=hes.rs
  have hesl:=hes.len
  repeat (first|refine qac ?_|(refine qaa ?_;clear hw;intro p w hw)|(refine qae ?_;clear hw;intro w hw)|(refine qab ?_;clear hw;intro s w hw))
  obtain⟨p13,hp13⟩:∃ p13,p13=p:=⟨p,rfl⟩
  subst hp13
  have hw1:Sat w0 w (RowsAt tInt 3 ss (nedR (unK t k++unO t.vars k (t.ops.getD k dOp) 0) (factN t))::OS tVal 22 nv ss::Box pr 116 [a2,.slice none 0 0,c2,.slice none 0 0,fv,.int .i64 (factN t:Int),uv,nv,frv]::OS tInt 3 fv (fstL t.vars t.vars.length)::OS tUn 120 uv us::RdH (UnF us (unK t k++unO t.vars k (t.ops.getD k dOp) 0))::OS tInt 3 frv (freL (unK t k++unO t.vars k (t.ops.getD k dOp) 0))::Box p13 44 (tOp.enc (eget tOp vs k))::OS tInt 3 (.slice none 0 0) []::OS tFact 73 c2 t.goal::OS tInt 3 a2 t.vars::[Box pt 26 [a,b,c,d]]):=by
   have hu0:unO t.vars k (t.ops.getD k dOp) 0=[]:=rfl
   rw [hu0,List.append_nil]
   exact hw.selG
  clear hw
  have hw:=hw1
  clear hw1
  refine qao [15,16,114,115,116,117,118,119,120,121,122,123,124,125,126,127,128,129,130,131,132,133,134,135,136] (G:=Nat) (fun j=>[(114,.int .i64 j)]) (fun j w=>j≤(t.ops.getD k dOp).effs.length∧∃ uv frv us ss,us.length=(unK t k++unO t.vars k (t.ops.getD k dOp) j).length∧Sat w0 w (RowsAt tInt 3 ss (nedR (unK t k++unO t.vars k (t.ops.getD k dOp) j) (factN t))::OS tVal 22 nv ss::Box pr 116 [a2,.slice none 0 0,c2,.slice none 0 0,fv,.int .i64 (factN t:Int),uv,nv,frv]::OS tInt 3 fv (fstL t.vars t.vars.length)::OS tUn 120 uv us::RdH (UnF us (unK t k++unO t.vars k (t.ops.getD k dOp) j))::OS tInt 3 frv (freL (unK t k++unO t.vars k (t.ops.getD k dOp) j))::Box p13 44 (tOp.enc (eget tOp vs k))::OS tInt 3 (.slice none 0 0) []::OS tFact 73 c2 t.goal::OS tInt 3 a2 t.vars::[Box pt 26 [a,b,c,d]])) (fun j=>(t.ops.getD k dOp).effs.length-j) 0 (fun _=>rfl) ⟨rfl,trivial⟩ ⟨Nat.zero_le _,_,_,_,_,by rw [show unO t.vars k (t.ops.getD k dOp) 0=[] from rfl,List.append_nil];exact hul,hw⟩ ?_
  clear hw hul
  clear uv frv us ss
  rintro σ2 j w ⟨hj,uv,frv,us,ss,hul,hw⟩
  repeat (first|refine qac ?_|(refine qaa ?_;clear hw;intro p w hw)|(refine qad ?_;clear hw;intro w hw)|(refine qab ?_;clear hw;intro s w hw))
  refine go_if (fun h3 => ?_) (fun h3 => ?_)
  ·have hjl:j<(t.ops.getD k dOp).effs.length:=by omega
   have hue:=hes.at_ j hjl
   have hgf:=hgo.eff j hjl
   have hueo:=hue.one
   have hwh:=hue.when
   repeat (first|refine qac ?_|(refine qaa ?_;clear hw;intro p w hw)|(refine qae ?_;clear hw;intro w hw)|(refine qab ?_;clear hw;intro s w hw))
   obtain⟨p16,hp16⟩:∃ p16,p16=p:=⟨p,rfl⟩
   subst hp16
   refine qay [.op 0,.op 1,.op 2,.op 3,.op 4,.op 5,.op 6,.op 7,.op 8,.op 12,.op 13,.op 14,.op 15,.op 9,.chk 13,.chk 15,.op 10,.chk 13,.chk 15,.op 11,.chk 13,.chk 15,.op 16] hw (by kernel_rfl) ?_;clear hw;intro w hw
   repeat (first|refine qac ?_|(refine qaa ?_;clear hw;intro p w hw)|(refine qae ?_;clear hw;intro w hw)|(refine qab ?_;clear hw;intro s w hw))
   have hfo:FactOk t.vars ⟨(eget tEff es j).var,(eget tEff es j).val⟩:=by rw [hue.var,hue.val];exact qcm hgf
   refine qag rfl (qb6 (f:=⟨(eget tEff es j).var,(eget tEff es j).val⟩) (boxRO (p:=pr) hw) (rsO (s:=fv) hw) hg.pos (fun i hi=>(hg.dom i hi).2) hvl hfo) ?_
   rintro _ w' ⟨rfl,hk'⟩
   replace hw:=hw.call0 hk'
   clear hk'
   refine⟨_,rfl,?_⟩
   repeat (first|refine qac ?_|(refine qaa ?_;clear hw;intro p w hw)|(refine qae ?_;clear hw;intro w hw)|(refine qab ?_;clear hw;intro s w hw))
   refine qjt (v1:=.int .i64 (k:Int)) (v2:=.int .i64 (j:Int)) (v3:=.int .i64 (eget tOp vs k).cost) (v4:=.int .i64 (numF t.vars ⟨(eget tEff es j).var,(eget tEff es j).val⟩)) rfl rfl rfl rfl rfl rfl ?_
   repeat (first|refine qac ?_|(refine qaa ?_;clear hw;intro p w hw)|(refine qae ?_;clear hw;intro w hw)|(refine qab ?_;clear hw;intro s w hw))
   have hwp:RS tFact w0 (eget tOp vs k).pre (t.ops.getD k dOp).pre:=hpre
   have hkp:∀ f∈(t.ops.getD k dOp).pre,FactOk t.vars f:=fun f hf=>by
    obtain⟨i,hi,rfl⟩:=List.getElem_of_mem hf
    have:=(hgo.pre i hi).1
    rwa [qak hi] at this
   have hkw:∀ f∈((t.ops.getD k dOp).effs.getD j dEff).when,FactOk t.vars f:=fun f hf=>by
    obtain⟨i,hi,rfl⟩:=List.getElem_of_mem hf
    have:=(hgf.1 i hi).1
    rwa [qak hi] at this
   have hwl:=qaO hgf.1
   have hUl:(unK t k++unO t.vars k (t.ops.getD k dOp) j).length≤1048576:=by
    have h5:=qgq hg (k:=k) (by omega)
    rw [List.length_append,qiK];omega
   have hw1:Sat w0 w' (RowsAt tInt 3 ss (nedR (unK t k++unO t.vars k (t.ops.getD k dOp) j) (factN t))::OS tVal 22 nv ss::Box pr 116 [a2,.slice none 0 0,c2,.slice none 0 0,fv,.int .i64 (factN t:Int),uv,nv,frv]::OS tInt 3 fv (fstL t.vars t.vars.length)::OS tUn 120 uv us::RdH (UnF us (unK t k++unO t.vars k (t.ops.getD k dOp) j))::OS tInt 3 frv (freL (unK t k++unO t.vars k (t.ops.getD k dOp) j))::Box p16 75 (tEff.enc (eget tEff es j))::Box p13 44 (tOp.enc (eget tOp vs k))::OS tInt 3 (.slice none 0 0) []::OS tFact 73 c2 t.goal::OS tInt 3 a2 t.vars::[Box pt 26 [a,b,c,d]]):=hw.selG
   refine qag rfl (qj3 (l1:=(t.ops.getD k dOp).pre) (l2:=((t.ops.getD k dOp).effs.getD j dEff).when) (vars:=t.vars) (N:=factN t) hg.pos (fun i hi=>(hg.dom i hi).2) hvl (qcF hg) hN hUl hwp hwh hkp hkw (by omega) (by omega) hul hw1) ?_
   clear hw hw1
   rintro _ w ⟨rfl,uv2,frv2,us2,ss2,hul2,hw⟩
   refine⟨_,rfl,?_⟩
   have hue1:=hue.var
   have hue2:=hue.val
   have hco:=hop.cost
   rw [hue1,hue2,hco,List.append_assoc,show Un.mk (k:Int) (j:Int) (t.ops.getD k dOp).cost (numF t.vars ⟨((t.ops.getD k dOp).effs.getD j dEff).var,((t.ops.getD k dOp).effs.getD j dEff).val⟩) (needsL t.vars ((t.ops.getD k dOp).effs.getD j dEff).when (needsL t.vars (t.ops.getD k dOp).pre []))=unE t.vars k (t.ops.getD k dOp) j from rfl,←qkj] at hw hul2
   repeat (first|refine qac ?_|(refine qaa ?_;clear hw;intro p w hw)|(refine qae ?_;clear hw;intro w hw)|(refine qab ?_;clear hw;intro s w hw))
   exact⟨j+1,⟨rfl,trivial⟩,agr,⟨by omega,uv2,frv2,us2,ss2,hul2,hw.selG⟩,by omega⟩
  have hje:j=(t.ops.getD k dOp).effs.length:=by omega
  subst hje
  rw [←qhf] at hw hul
  repeat (first|refine qac ?_|(refine qaa ?_;clear hw;intro p w hw)|(refine qae ?_;clear hw;intro w hw)|(refine qab ?_;clear hw;intro s w hw))
  exact⟨k+1,⟨rfl,trivial⟩,agr,⟨by omega,uv,frv,us,ss,hul,hw.selG⟩,by omega⟩
 have hke:k=t.ops.length:=by omega
 subst hke
 have hssl:ss.length=factN t:=by rw [hw.rowsLen,qfb]
 repeat (first|refine qac ?_|(refine qaa ?_;clear hw;intro p w hw)|(refine qae ?_;clear hw;intro w hw)|(refine qab ?_;clear hw;intro s w hw))
 have hw2:=Sat.rd (Δ:=[RowsAt tInt 3 ss (nedR (unK t t.ops.length) (factN t)),OS tVal 22 nv ss,Box pr 116 [a2,.slice none 0 0,c2,.slice none 0 0,fv,.int .i64 (factN t:Int),uv,nv,frv],OS tInt 3 fv (fstL t.vars t.vars.length),OS tUn 120 uv us,RdH (UnF us (unK t t.ops.length)),OS tInt 3 frv (freL (unK t t.ops.length)),OS tInt 3 (.slice none 0 0) [],OS tFact 73 c2 t.goal,OS tInt 3 a2 t.vars]) (φ:=fun w=>RRlx w pr t) (fun _ w h=>by
  refine⟨a2,c2,fv,uv,nv,frv,us,ss,h.boxR 2 rfl,h.rs 9 rfl,h.rs 8 rfl,h.rs 3 rfl,h.rs 4 rfl,hul,h.rdE 5 rfl,h.rs 1 rfl,hssl,fun f hf => ?_,h.rs 6 rfl⟩
  have h3:Sat _ w [RowsAt tInt 3 ss (nedR (unK t t.ops.length) (factN t))]:=h.sel
  have h4:=h3.row (i:=f) (by rw [qfb];exact hf)
  rw [ql8 hf] at h4
  exact h4) hw
 exact qaw (v:=.pointer (some pr)) (v':=.nilIface) rfl rfl rfl ⟨pr,rfl,hw2.sel⟩
end Go.Proofs.YtdadmnlenbdfbaaGreat
/-
  Contracts of the relaxation's heap and of the package 'container/heap' over it.
-/
namespace Go.Proofs.YtdadmnlenbdfbaaGreat
open Go.Sl
attribute [local irreducible] vc opsW opsD opV opW PureV ReadV Thn Blk
set_option maxRecDepth 8000 in
theorem qbj {w0:World}{h:Value}{xs:List Item}{i j:Nat}{ii jj:Int}(hx:RS tItem w0 h xs) (ei:ii=i) (ej:jj=j) (hi:i<xs.length) (hj:j<xs.length) :
  Calls Tryz.prog 152 #[h,.int .i64 ii,.int .i64 jj] w0 fun e w'=>e=.returned (.bool (ilt (hg tItem.dflt xs i) (hg tItem.dflt xs j)))∧Sat w0 w' []:=by
 subst ei ej
 have hw:=Sat.start w0
 refine qaf (args:=[h,.int .i64 i,.int .i64 j]) mixed Tryz.func152 rfl (by kernel_rfl) (Nat.le_of_ble_eq_true rfl) ?_
 repeat (first|refine qac ?_|(refine qaa ?_;clear hw;intro p w hw)|(refine qad ?_;clear hw;intro w hw)|(refine qab ?_;clear hw;intro s w hw))
 exact qai (v:=.bool (ilt (hg tItem.dflt xs i) (hg tItem.dflt xs j))) rfl rfl ⟨rfl,hw⟩
set_option maxRecDepth 8000 in
theorem qbk {w0 w:World}{Γ:List HP}{h:Value}{xs:List Item}{i j:Nat}{ii jj:Int}(ei:ii=i) (ej:jj=j) (hi:i<xs.length) (hj:j<xs.length) (hw:Sat w0 w (OS tItem 215 h xs::Γ)) :
  Calls Tryz.prog 153 #[h,.int .i64 ii,.int .i64 jj] w fun e w'=>e=.returned (.tuple #[])∧Sat w0 w' (OS tItem 215 h (sw tItem.dflt xs i j)::Γ):=by
 subst ei ej
 refine qaf (args:=[h,.int .i64 i,.int .i64 j]) mixed Tryz.func153 rfl (by kernel_rfl) (Nat.le_of_ble_eq_true rfl) ?_
 repeat (first|refine qac ?_|(refine qaa ?_;clear hw;intro p w hw)|(refine qad ?_;clear hw;intro w hw)|(refine qab ?_;clear hw;intro s w hw))
 refine qaP (s:=h) (j:=i) (x':=hg tItem.dflt xs j) rfl rfl rfl rfl hw inferInstance (by omega) ?_
 clear hw
 intro w hw
 have hl:(xs.set i (hg tItem.dflt xs j)).length=xs.length:=by simp
 repeat (first|refine qac ?_|(refine qaa ?_;clear hw;intro p w hw)|(refine qad ?_;clear hw;intro w hw)|(refine qab ?_;clear hw;intro s w hw))
 refine qaP (s:=h) (j:=j) (x':=hg tItem.dflt xs i) rfl rfl rfl rfl hw inferInstance (by omega) ?_
 clear hw
 intro w hw
 repeat (first|refine qac ?_|(refine qaa ?_;clear hw;intro p w hw)|(refine qad ?_;clear hw;intro w hw)|(refine qab ?_;clear hw;intro s w hw))
 exact qa0 rfl ⟨rfl,hw⟩
set_option maxRecDepth 8000 in
theorem qg5 {w0 w:World}{Γ:List HP}{q:Addr}{h:Value}{xs:List Item}{v:Item}(hl:xs.length<1099511627776) (hw:Sat w0 w (OS tItem 215 h xs::Box q 211 [h]::Γ)) :
  Calls Tryz.prog 155 #[.pointer (some q),.iface 215 (.agg #[.int .i64 v.dist,.int .i64 v.state])] w fun e w'=>e=.returned (.tuple #[])∧∃ h',Sat w0 w' (OS tItem 215 h' (xs++[v])::Box q 211 [h']::Γ):=by
 refine qaf (args:=[.pointer (some q),.iface 215 (.agg #[.int .i64 v.dist,.int .i64 v.state])]) mixed Tryz.func155 rfl (by kernel_rfl) (Nat.le_of_ble_eq_true rfl) ?_
 repeat (first|refine qac ?_|(refine qaa ?_;clear hw;intro p w hw)|(refine qae ?_;clear hw;intro w hw)|(refine qab ?_;clear hw;intro s w hw))
 refine qay [.op 0,.op 1,.op 2,.op 3,.op 4,.op 5,.chk 3,.op 6,.op 7,.op 8] hw (by kernel_rfl) ?_;clear hw;intro w hw
 repeat (first|refine qac ?_|(refine qaa ?_;clear hw;intro p w hw)|(refine qae ?_;clear hw;intro w hw)|(refine qab ?_;clear hw;intro s w hw))
 refine qal tItem (x1:=v) rfl rfl rfl (Nat.le_of_ble_eq_true rfl) (Nat.zero_lt_succ _) hw ?_
 clear hw
 intro s w hw
 repeat (first|refine qac ?_|(refine qaa ?_;clear hw;intro p w hw)|(refine qae ?_;clear hw;intro w hw)|(refine qab ?_;clear hw;intro s w hw))
 exact qa0 rfl ⟨rfl,_,hw.tail.tail⟩
set_option maxRecDepth 8000 in
theorem qiD {w0 w:World}{Γ:List HP}{q:Addr}{h:Value}{xs:List Item}(hl:0<xs.length) (hb:xs.length≤1099511627776) (hw:Sat w0 w (OS tItem 215 h xs::Box q 211 [h]::Γ)) :
  Calls Tryz.prog 154 #[.pointer (some q)] w fun e w'=>e=.returned (.iface 215 ((.agg #[.int .i64 (hg tItem.dflt xs (xs.length-1)).dist,.int .i64 (hg tItem.dflt xs (xs.length-1)).state])))∧∃ h',Sat w0 w' (OS tItem 215 h' (xs.take (xs.length-1))::Box q 211 [h']::Γ):=by
 refine qaf (args:=[.pointer (some q)]) mixed Tryz.func154 rfl (by kernel_rfl) (Nat.le_of_ble_eq_true rfl) ?_
 repeat (first|refine qac ?_|(refine qaa ?_;clear hw;intro p w hw)|(refine qad ?_;clear hw;intro w hw)|(refine qab ?_;clear hw;intro s w hw))
 have hk:(((xs.length:Nat):Int)-1).toNat=xs.length-1:=by omega
 replace hw:=Sat.sub (s:=h) (xs:=xs) hw inferInstance 0 (((xs.length:Nat):Int)-1).toNat (by omega) (by omega)
 repeat (first|refine qac ?_|(refine qaa ?_;clear hw;intro p w hw)|(refine qad ?_;clear hw;intro w hw)|(refine qab ?_;clear hw;intro s w hw))
 refine qai (v:=.iface 215 ((.agg #[.int .i64 (hg tItem.dflt xs (((xs.length:Nat):Int)-1).toNat).dist,.int .i64 (hg tItem.dflt xs (((xs.length:Nat):Int)-1).toNat).state]))) rfl rfl ⟨by rw [hk],ssub h tItem.sz 0 (((xs.length:Nat):Int)-1).toNat,?_⟩
 have hc:cut xs 0 (((xs.length:Nat):Int)-1).toNat=xs.take (xs.length-1):=by rw [hk];simp [cut]
 rw [hc] at hw
 exact hw.tail
set_option maxRecDepth 8000 in
theorem qdq {w0:World}{h:Value}{xs:List Item}(hx:RS tItem w0 h xs) :
  Calls Tryz.prog 132 #[h] w0 fun e w'=>e=.returned (.int .i64 xs.length)∧Sat w0 w' []:=by
 have hw:=Sat.start w0
 refine qaf (args:=[h]) mixed Tryz.func132 rfl (by kernel_rfl) (Nat.le_of_ble_eq_true rfl) ?_
 repeat (first|refine qac ?_|(refine qaa ?_;clear hw;intro p w hw)|(refine qad ?_;clear hw;intro w hw)|(refine qab ?_;clear hw;intro s w hw))
 exact qai (v:=.int .i64 xs.length) rfl rfl ⟨rfl,hw⟩
set_option maxHeartbeats 1000000 in
set_option maxRecDepth 8000 in
theorem qkc {w0 w:World}{Γ:List HP}{q:Addr}{h:Value}{xs:List Item}{j:Nat}{jj:Int}(ej:jj=j) (U:UpI tItem.dflt ilt xs j) (hb:xs.length≤1099511627776) (hw:Sat w0 w (OS tItem 215 h xs::Box q 211 [h]::Γ)) :
  Calls Tryz.prog 134 #[.iface 213 (.pointer (some q)),.int .i64 jj] w fun e w'=>e=.returned (.tuple #[])∧∃ ys,IsHeap tItem.dflt ilt ys∧ys.Perm xs∧Sat w0 w' (OS tItem 215 h ys::Box q 211 [h]::Γ):=by
 subst ej
 refine qaf (args:=[.iface 213 (.pointer (some q)),.int .i64 j]) mixed Tryz.func134 rfl (by kernel_rfl) (Nat.le_of_ble_eq_true rfl) ?_
 repeat (first|refine qac ?_|(refine qaa ?_;clear hw;intro p w hw)|(refine qad ?_;clear hw;intro w hw)|(refine qab ?_;clear hw;intro s w hw))
 refine qat [1,4,5,6,7,8,9,10,11,12,13,14,15,16,17,18,19,20,21,22] (G:=Nat) (H:=List Item) (fun j ys=>[(1,.int .i64 j)]) (fun j ys w=>UpI tItem.dflt ilt ys j∧ys.Perm xs∧Sat w0 w (OS tItem 215 h ys::Box q 211 [h]::Γ)) (fun j ys=>j) j xs (fun _ _=>rfl) ⟨rfl,trivial⟩ ⟨U,.refl _,hw⟩ ?_
 clear hw U
 rintro σ j ys w ⟨U,hp,hw⟩
 have hlt:=U.inb
 have hyl:=hp.length_eq
 repeat (first|refine qac ?_|(refine qaa ?_;clear hw;intro p w hw)|(refine qad ?_;clear hw;intro w hw)|(refine qab ?_;clear hw;intro s w hw))
 simp only [qjZ]
 by_cases hij:(j-1) / 2=j
 ·have hdec:decide ((((j-1) / 2:Nat):Int)=(j:Int))=true:=decide_eq_true (by omega)
  simp only [hdec]
  repeat (first|refine qac ?_|(refine qaa ?_;clear hw;intro p w hw)|(refine qad ?_;clear hw;intro w hw)|(refine qab ?_;clear hw;intro s w hw))
  exact qa0 rfl ⟨rfl,ys,U.done (.inl hij),hp,hw⟩
 ·have hdec:decide ((((j-1) / 2:Nat):Int)=(j:Int))=false:=decide_eq_false (by omega)
  simp only [hdec,gvff]
  repeat (first|refine qac ?_|(refine qaa ?_;clear hw;intro p w hw)|(refine qad ?_;clear hw;intro w hw)|(refine qab ?_;clear hw;intro s w hw))
  refine qaH (u:=h) rfl rfl (hw.box0 inferInstance rfl) (qbj (rsO hw) rfl rfl hlt (show (j-1) / 2<ys.length by omega)) ?_
  rintro _ w' ⟨rfl,hk⟩
  replace hw:=hw.call0 hk
  clear hk
  cases hL:ilt (hg tItem.dflt ys j) (hg tItem.dflt ys ((j-1) / 2)) with
  | false =>
   refine⟨_,rfl,?_⟩
   repeat (first|refine qac ?_|(refine qaa ?_;clear hw;intro p w hw)|(refine qad ?_;clear hw;intro w hw)|(refine qab ?_;clear hw;intro s w hw))
   exact qa0 rfl ⟨rfl,ys,U.done (.inr hL),hp,hw⟩
  | true =>
   refine⟨_,rfl,?_⟩
   repeat (first|refine qac ?_|(refine qaa ?_;clear hw;intro p w hw)|(refine qad ?_;clear hw;intro w hw)|(refine qab ?_;clear hw;intro s w hw))
   refine qaH (u:=h) rfl rfl (hw.box0 inferInstance rfl) (qbk rfl rfl (show (j-1) / 2<ys.length by omega) hlt hw) ?_
   clear hw
   rintro _ w ⟨rfl,hw⟩
   refine⟨_,rfl,?_⟩
   repeat (first|refine qac ?_|(refine qaa ?_;clear hw;intro p w hw)|(refine qad ?_;clear hw;intro w hw)|(refine qab ?_;clear hw;intro s w hw))
   exact⟨(j-1) / 2,_,⟨rfl,trivial⟩,agr,⟨U.step hij hL,(qep (by omega) hlt).trans hp,hw⟩,by omega⟩
set_option maxHeartbeats 2000000 in
set_option maxRecDepth 8000 in
theorem qg6 {w0 w:World}{Γ:List HP}{q:Addr}{h:Value}{xs:List Item}{n:Nat}{nn:Int}(en:nn=n) (D:DnI tItem.dflt ilt xs n 0) (hb:xs.length≤1099511627776) (hw:Sat w0 w (OS tItem 215 h xs::Box q 211 [h]::Γ)) :
  Calls Tryz.prog 135 #[.iface 213 (.pointer (some q)),.int .i64 0,.int .i64 nn] w fun e w'=>∃ b ys,e=.returned (.bool b)∧HeapN tItem.dflt ilt ys n∧ys.Perm xs∧(∀ k,n≤k→hg tItem.dflt ys k=hg tItem.dflt xs k)∧Sat w0 w' (OS tItem 215 h ys::Box q 211 [h]::Γ):=by
 subst en
 refine qaf (args:=[.iface 213 (.pointer (some q)),.int .i64 0,.int .i64 n]) mixed Tryz.func135 rfl (by kernel_rfl) (Nat.le_of_ble_eq_true rfl) ?_
 repeat (first|refine qac ?_|(refine qaa ?_;clear hw;intro p w hw)|(refine qad ?_;clear hw;intro w hw)|(refine qab ?_;clear hw;intro s w hw))
 refine qat [7,8,9,10,12,13,14,15,16,17,18,19,20,21,22,23,24,25,26,27,28,29,30,31,32,33,34,35,36,37,38,39,40,41,42,43,44] (G:=Nat) (H:=List Item) (fun i ys=>[(7,.int .i64 i)]) (fun i ys w=>DnI tItem.dflt ilt ys n i∧i≤n∧ys.Perm xs∧(∀ k,n≤k→hg tItem.dflt ys k=hg tItem.dflt xs k)∧Sat w0 w (OS tItem 215 h ys::Box q 211 [h]::Γ)) (fun i ys=>n-i) 0 xs (fun _ _=>rfl) ⟨rfl,trivial⟩ ⟨D,Nat.zero_le _,.refl _,fun _ _=>rfl,hw⟩ ?_
 clear hw D
 rintro σ i ys w ⟨D,hin,hp,hkeep,hw⟩
 have hle1:=D.le
 have hyl:=hp.length_eq
 repeat (first|refine qac ?_|(refine qaa ?_;clear hw;intro p w hw)|(refine qad ?_;clear hw;intro w hw)|(refine qab ?_;clear hw;intro s w hw))
 refine go_if (fun h1 => ?_) (fun h1 => ?_)
 ·repeat (first|refine qac ?_|(refine qaa ?_;clear hw;intro p w hw)|(refine qad ?_;clear hw;intro w hw)|(refine qab ?_;clear hw;intro s w hw))
  exact qai (v:=.bool _) rfl rfl ⟨_,ys,rfl,D.leaf (by omega),hp,hkeep,hw⟩
 ·have hin':2*i+1<n:=by omega
  repeat (first|refine qac ?_|(refine qaa ?_;clear hw;intro p w hw)|(refine qad ?_;clear hw;intro w hw)|(refine qab ?_;clear hw;intro s w hw))
  by_cases h2:2*i+2<n
  ·have hdec:decide (2*(i:Int)+1+1<(n:Int))=true:=decide_eq_true (by omega)
   simp only [hdec,gvtt]
   repeat (first|refine qac ?_|(refine qaa ?_;clear hw;intro p w hw)|(refine qad ?_;clear hw;intro w hw)|(refine qab ?_;clear hw;intro s w hw))
   refine qaH (u:=h) rfl rfl (hw.box0 inferInstance rfl) (qbj (i:=2*i+2) (j:=2*i+1) (rsO hw) (by omega) (by omega) (by omega) (by omega)) ?_
   rintro _ w' ⟨rfl,hk⟩
   replace hw:=hw.call0 hk
   clear hk
   cases hL:ilt (hg tItem.dflt ys (2*i+2)) (hg tItem.dflt ys (2*i+1)) with
   | true =>
    refine⟨_,rfl,?_⟩
    repeat (first|refine qel ?_|(refine qaa ?_;clear hw;intro p w hw)|(refine qad ?_;clear hw;intro w hw)|(refine qab ?_;clear hw;intro s w hw))
    refine qby [9,34] (G:=Nat) (fun j=>[(9,.int .i64 j)]) (fun j w=>(j=2*i+1∨j=2*i+2)∧j<n∧(∀ c,0<c→c<n→(c-1) / 2=i→hle ilt (hg tItem.dflt ys j) (hg tItem.dflt ys c))∧Sat w0 w (OS tItem 215 h ys::Box q 211 [h]::Γ)) (fun _=>rfl) ?_ ?_
    ·repeat (first|refine qac ?_|(refine qaa ?_;clear hw;intro p w hw)|(refine qad ?_;clear hw;intro w hw)|(refine qab ?_;clear hw;intro s w hw))
     refine⟨2*i+2,⟨?_,trivial⟩,agr,.inr rfl,h2,fun c h0 h1 hc => ?_,hw⟩
     ·show Value.int .i64 (2*(i:Int)+1+1)=_
      congr 1
     ·have:c=2*i+1∨c=2*i+2:=by omega
      rcases this with rfl|rfl
      ·exact qjY hL
      ·exact qdS _
    ·clear hw
     rintro σ1 j w ⟨hj,hjn,hmin,hw⟩
     repeat (first|refine qac ?_|(refine qaa ?_;clear hw;intro p w hw)|(refine qad ?_;clear hw;intro w hw)|(refine qab ?_;clear hw;intro s w hw))
     refine qaH (u:=h) rfl rfl (hw.box0 inferInstance rfl) (qbj (rsO hw) rfl rfl (show j<ys.length by omega) (show i<ys.length by omega)) ?_
     rintro _ w' ⟨rfl,hk⟩
     replace hw:=hw.call0 hk
     clear hk
     cases hL:ilt (hg tItem.dflt ys j) (hg tItem.dflt ys i) with
     | false =>
      refine⟨_,rfl,?_⟩
      repeat (first|refine qac ?_|(refine qaa ?_;clear hw;intro p w hw)|(refine qad ?_;clear hw;intro w hw)|(refine qab ?_;clear hw;intro s w hw))
      exact qai (v:=.bool _) rfl rfl ⟨_,ys,rfl,D.done hmin hL,hp,hkeep,hw⟩
     | true =>
      refine⟨_,rfl,?_⟩
      repeat (first|refine qac ?_|(refine qaa ?_;clear hw;intro p w hw)|(refine qad ?_;clear hw;intro w hw)|(refine qab ?_;clear hw;intro s w hw))
      refine qaH (u:=h) rfl rfl (hw.box0 inferInstance rfl) (qbk rfl rfl (show i<ys.length by omega) (show j<ys.length by omega) hw) ?_
      clear hw
      rintro _ w ⟨rfl,hw⟩
      refine⟨_,rfl,?_⟩
      repeat (first|refine qac ?_|(refine qaa ?_;clear hw;intro p w hw)|(refine qad ?_;clear hw;intro w hw)|(refine qab ?_;clear hw;intro s w hw))
      refine⟨j,_,⟨rfl,trivial⟩,agr,⟨D.step hj hjn hmin hL,by omega,(qep (by omega) (by omega)).trans hp,fun k hk => ?_,hw⟩,by omega⟩
      rw [qbs (by omega) (by omega),if_neg (by omega),if_neg (by omega)]
      exact hkeep k hk
   | false =>
    refine⟨_,rfl,?_⟩
    repeat (first|refine qel ?_|(refine qaa ?_;clear hw;intro p w hw)|(refine qad ?_;clear hw;intro w hw)|(refine qab ?_;clear hw;intro s w hw))
    refine qby [9,34] (G:=Nat) (fun j=>[(9,.int .i64 j)]) (fun j w=>(j=2*i+1∨j=2*i+2)∧j<n∧(∀ c,0<c→c<n→(c-1) / 2=i→hle ilt (hg tItem.dflt ys j) (hg tItem.dflt ys c))∧Sat w0 w (OS tItem 215 h ys::Box q 211 [h]::Γ)) (fun _=>rfl) ?_ ?_
    ·repeat (first|refine qac ?_|(refine qaa ?_;clear hw;intro p w hw)|(refine qad ?_;clear hw;intro w hw)|(refine qab ?_;clear hw;intro s w hw))
     refine⟨2*i+1,⟨?_,trivial⟩,agr,.inl rfl,hin',fun c h0 h1 hc => ?_,hw⟩
     ·show Value.int .i64 (2*(i:Int)+1)=_
      congr 1
     ·have:c=2*i+1∨c=2*i+2:=by omega
      rcases this with rfl|rfl
      ·exact qdS _
      ·exact hL
    ·clear hw
     rintro σ1 j w ⟨hj,hjn,hmin,hw⟩
     repeat (first|refine qac ?_|(refine qaa ?_;clear hw;intro p w hw)|(refine qad ?_;clear hw;intro w hw)|(refine qab ?_;clear hw;intro s w hw))
     refine qaH (u:=h) rfl rfl (hw.box0 inferInstance rfl) (qbj (rsO hw) rfl rfl (show j<ys.length by omega) (show i<ys.length by omega)) ?_
     rintro _ w' ⟨rfl,hk⟩
     replace hw:=hw.call0 hk
     clear hk
     cases hL:ilt (hg tItem.dflt ys j) (hg tItem.dflt ys i) with
     | false =>
      refine⟨_,rfl,?_⟩
      repeat (first|refine qac ?_|(refine qaa ?_;clear hw;intro p w hw)|(refine qad ?_;clear hw;intro w hw)|(refine qab ?_;clear hw;intro s w hw))
      exact qai (v:=.bool _) rfl rfl ⟨_,ys,rfl,D.done hmin hL,hp,hkeep,hw⟩
     | true =>
      refine⟨_,rfl,?_⟩
      repeat (first|refine qac ?_|(refine qaa ?_;clear hw;intro p w hw)|(refine qad ?_;clear hw;intro w hw)|(refine qab ?_;clear hw;intro s w hw))
      refine qaH (u:=h) rfl rfl (hw.box0 inferInstance rfl) (qbk rfl rfl (show i<ys.length by omega) (show j<ys.length by omega) hw) ?_
      clear hw
      rintro _ w ⟨rfl,hw⟩
      refine⟨_,rfl,?_⟩
      repeat (first|refine qac ?_|(refine qaa ?_;clear hw;intro p w hw)|(refine qad ?_;clear hw;intro w hw)|(refine qab ?_;clear hw;intro s w hw))
      refine⟨j,_,⟨rfl,trivial⟩,agr,⟨D.step hj hjn hmin hL,by omega,(qep (by omega) (by omega)).trans hp,fun k hk => ?_,hw⟩,by omega⟩
      rw [qbs (by omega) (by omega),if_neg (by omega),if_neg (by omega)]
      exact hkeep k hk
  ·have hdec:decide (2*(i:Int)+1+1<(n:Int))=false:=decide_eq_false (by omega)
   simp only [hdec]
   repeat (first|refine qel ?_|(refine qaa ?_;clear hw;intro p w hw)|(refine qad ?_;clear hw;intro w hw)|(refine qab ?_;clear hw;intro s w hw))
   refine qby [9,34] (G:=Nat) (fun j=>[(9,.int .i64 j)]) (fun j w=>(j=2*i+1∨j=2*i+2)∧j<n∧(∀ c,0<c→c<n→(c-1) / 2=i→hle ilt (hg tItem.dflt ys j) (hg tItem.dflt ys c))∧Sat w0 w (OS tItem 215 h ys::Box q 211 [h]::Γ)) (fun _=>rfl) ?_ ?_
   ·repeat (first|refine qac ?_|(refine qaa ?_;clear hw;intro p w hw)|(refine qad ?_;clear hw;intro w hw)|(refine qab ?_;clear hw;intro s w hw))
    refine⟨2*i+1,⟨?_,trivial⟩,agr,.inl rfl,hin',fun c h0 h1 hc => ?_,hw⟩
    ·show Value.int .i64 (2*(i:Int)+1)=_
     congr 1
    ·have:c=2*i+1:=by omega
     subst this;exact qdS _
   ·clear hw
    rintro σ1 j w ⟨hj,hjn,hmin,hw⟩
    repeat (first|refine qac ?_|(refine qaa ?_;clear hw;intro p w hw)|(refine qad ?_;clear hw;intro w hw)|(refine qab ?_;clear hw;intro s w hw))
    refine qaH (u:=h) rfl rfl (hw.box0 inferInstance rfl) (qbj (rsO hw) rfl rfl (show j<ys.length by omega) (show i<ys.length by omega)) ?_
    rintro _ w' ⟨rfl,hk⟩
    replace hw:=hw.call0 hk
    clear hk
    cases hL:ilt (hg tItem.dflt ys j) (hg tItem.dflt ys i) with
    | false =>
     refine⟨_,rfl,?_⟩
     repeat (first|refine qac ?_|(refine qaa ?_;clear hw;intro p w hw)|(refine qad ?_;clear hw;intro w hw)|(refine qab ?_;clear hw;intro s w hw))
     exact qai (v:=.bool _) rfl rfl ⟨_,ys,rfl,D.done hmin hL,hp,hkeep,hw⟩
    | true =>
     refine⟨_,rfl,?_⟩
     repeat (first|refine qac ?_|(refine qaa ?_;clear hw;intro p w hw)|(refine qad ?_;clear hw;intro w hw)|(refine qab ?_;clear hw;intro s w hw))
     refine qaH (u:=h) rfl rfl (hw.box0 inferInstance rfl) (qbk rfl rfl (show i<ys.length by omega) (show j<ys.length by omega) hw) ?_
     clear hw
     rintro _ w ⟨rfl,hw⟩
     refine⟨_,rfl,?_⟩
     repeat (first|refine qac ?_|(refine qaa ?_;clear hw;intro p w hw)|(refine qad ?_;clear hw;intro w hw)|(refine qab ?_;clear hw;intro s w hw))
     refine⟨j,_,⟨rfl,trivial⟩,agr,⟨D.step hj hjn hmin hL,by omega,(qep (by omega) (by omega)).trans hp,fun k hk => ?_,hw⟩,by omega⟩
     rw [qbs (by omega) (by omega),if_neg (by omega),if_neg (by omega)]
     exact hkeep k hk
set_option maxRecDepth 8000 in
theorem qet {w0 w:World}{Γ:List HP}{q:Addr}{h:Value}{xs:List Item}{v:Item}(H:IsHeap tItem.dflt ilt xs) (hb:xs.length<1099511627776) (hw:Sat w0 w (OS tItem 215 h xs::Box q 211 [h]::Γ)) :
  Calls Tryz.prog 131 #[.iface 213 (.pointer (some q)),.iface 215 (.agg #[.int .i64 v.dist,.int .i64 v.state])] w fun e w'=>e=.returned (.tuple #[])∧∃ h' ys,IsHeap tItem.dflt ilt ys∧ys.Perm (v::xs)∧Sat w0 w' (OS tItem 215 h' ys::Box q 211 [h']::Γ):=by
 refine qaf (args:=[.iface 213 (.pointer (some q)),.iface 215 (.agg #[.int .i64 v.dist,.int .i64 v.state])]) mixed Tryz.func131 rfl (by kernel_rfl) (Nat.le_of_ble_eq_true rfl) ?_
 repeat (first|refine qac ?_|(refine qaa ?_;clear hw;intro p w hw)|(refine qad ?_;clear hw;intro w hw)|(refine qab ?_;clear hw;intro s w hw))
 refine qeG rfl rfl (qg5 (v:=v) (by omega) hw) ?_
 clear hw
 rintro _ w ⟨rfl,h',hw⟩
 refine⟨_,rfl,?_⟩
 repeat (first|refine qac ?_|(refine qaa ?_;clear hw;intro p w hw)|(refine qad ?_;clear hw;intro w hw)|(refine qab ?_;clear hw;intro s w hw))
 refine qaH (u:=h') rfl rfl (hw.box0 inferInstance rfl) (qdq (rsO hw)) ?_
 rintro _ w' ⟨rfl,hk⟩
 replace hw:=hw.call0 hk
 clear hk
 refine⟨_,rfl,?_⟩
 have hl:(xs++[v]).length=xs.length+1:=by simp
 repeat (first|refine qac ?_|(refine qaa ?_;clear hw;intro p w hw)|(refine qad ?_;clear hw;intro w hw)|(refine qab ?_;clear hw;intro s w hw))
 refine qag rfl (qkc (j:=xs.length) (by rw [hl];omega) (qk8 H) (by omega) hw) ?_
 clear hw
 rintro _ w ⟨rfl,ys,h1,h2,hw⟩
 refine⟨_,rfl,?_⟩
 repeat (first|refine qac ?_|(refine qaa ?_;clear hw;intro p w hw)|(refine qad ?_;clear hw;intro w hw)|(refine qab ?_;clear hw;intro s w hw))
 exact qa0 rfl ⟨rfl,h',ys,h1,h2.trans (List.perm_append_comm (l₁:=xs) (l₂:=[v])),hw⟩
set_option maxRecDepth 8000 in
theorem qey {w0 w:World}{Γ:List HP}{q:Addr}{h:Value}{xs:List Item}(H:IsHeap tItem.dflt ilt xs) (hl:0<xs.length) (hb:xs.length≤1099511627776) (hw:Sat w0 w (OS tItem 215 h xs::Box q 211 [h]::Γ)) :
  Calls Tryz.prog 133 #[.iface 213 (.pointer (some q))] w fun e w'=>∃ v h' ys,e=.returned (.iface 215 (.agg #[.int .i64 v.dist,.int .i64 v.state]))∧IsHeap tItem.dflt ilt ys∧xs.Perm (v::ys)∧(∀ x∈xs,hle ilt v x)∧Sat w0 w' (OS tItem 215 h' ys::Box q 211 [h']::Γ):=by
 refine qaf (args:=[.iface 213 (.pointer (some q))]) mixed Tryz.func133 rfl (by kernel_rfl) (Nat.le_of_ble_eq_true rfl) ?_
 repeat (first|refine qac ?_|(refine qaa ?_;clear hw;intro p w hw)|(refine qad ?_;clear hw;intro w hw)|(refine qab ?_;clear hw;intro s w hw))
 refine qaH (u:=h) rfl rfl (hw.box0 inferInstance rfl) (qdq (rsO hw)) ?_
 rintro _ w' ⟨rfl,hk⟩
 replace hw:=hw.call0 hk
 clear hk
 refine⟨_,rfl,?_⟩
 repeat (first|refine qac ?_|(refine qaa ?_;clear hw;intro p w hw)|(refine qad ?_;clear hw;intro w hw)|(refine qab ?_;clear hw;intro s w hw))
 refine qaH (u:=h) rfl rfl (hw.box0 inferInstance rfl) (qbk (i:=0) (j:=xs.length-1) rfl (by omega) hl (by omega) hw) ?_
 clear hw
 rintro _ w ⟨rfl,hw⟩
 refine⟨_,rfl,?_⟩
 repeat (first|refine qac ?_|(refine qaa ?_;clear hw;intro p w hw)|(refine qad ?_;clear hw;intro w hw)|(refine qab ?_;clear hw;intro s w hw))
 refine qag rfl (qg6 (n:=xs.length-1) (by omega) (qmv H hl) (by rw [qeQ];exact hb) hw) ?_
 clear hw
 rintro _ w ⟨b,ys,rfl,h1,h2,h3,hw⟩
 have hp:=h2.trans (qep hl (show xs.length-1<xs.length by omega))
 have hyl:=hp.length_eq
 refine⟨_,rfl,?_⟩
 repeat (first|refine qac ?_|(refine qaa ?_;clear hw;intro p w hw)|(refine qad ?_;clear hw;intro w hw)|(refine qab ?_;clear hw;intro s w hw))
 refine qeG rfl rfl (qiD (by omega) (by omega) hw) ?_
 clear hw
 rintro _ w ⟨rfl,h',hw⟩
 refine⟨_,rfl,?_⟩
 repeat (first|refine qac ?_|(refine qaa ?_;clear hw;intro p w hw)|(refine qad ?_;clear hw;intro w hw)|(refine qab ?_;clear hw;intro s w hw))
 have hlast:hg tItem.dflt ys (xs.length-1)=hg tItem.dflt xs 0:=by
  rw [h3 _ (Nat.le_refl _),qbs hl (by omega),if_pos rfl]
 obtain⟨hh,hpp⟩:=qlb hl hp h1 hlast
 rw [hyl] at hw
 refine qai (v:=.iface 215 ((.agg #[.int .i64 (hg tItem.dflt ys (ys.length-1)).dist,.int .i64 (hg tItem.dflt ys (ys.length-1)).state]))) rfl rfl ⟨hg tItem.dflt xs 0,h',_,by rw [hyl,hlast],hh,hpp,fun x hx=>qla H hx,hw⟩
end Go.Proofs.YtdadmnlenbdfbaaGreat
/-
  Contract of the relaxation's 'values': the least values of all facts.
-/
namespace Go.Proofs.YtdadmnlenbdfbaaGreat
open Go.Sl Go
attribute [local irreducible] vc opsW opsD opV opW PureV ReadV Thn Blk
set_option maxRecDepth 8000 in
set_option maxHeartbeats 2000000 in
theorem qcA {w0 w:World}{Γ:List HP}{po pq:Addr}{ov qv:Value}{D:List Int}{Q:List Item}{N:Nat}{g v:Int}(hl:D.length=N) (hg:0≤g∧g<N) (hQ:IsHeap tItem.dflt ilt Q) (hql:Q.length<1099511627776)
  (hw:Sat w0 w (OS tItem 215 qv Q::Box pq 211 [qv]::OS tInt 3 ov D::Box po 22 [ov]::Γ)) :
  Calls Tryz.prog 130 #[.int .i64 g,.int .i64 v,.pointer (some po),.pointer (some pq)] w fun e w'=>e=.returned (.tuple #[])∧∃ qv' Q',IsHeap tItem.dflt ilt Q'∧Q'.Perm (rchQ D Q g v) ∧
   Sat w0 w' (OS tItem 215 qv' Q'::Box pq 211 [qv']::OS tInt 3 ov (rchD D g v)::Box po 22 [ov]::Γ):=by
 refine qaf (args:=[.int .i64 g,.int .i64 v,.pointer (some po),.pointer (some pq)]) mixed Tryz.func130 rfl (by kernel_rfl) (Nat.le_of_ble_eq_true rfl) ?_
 repeat (first|refine qac ?_|(refine qaa ?_;clear hw;intro p w hw)|(refine qad ?_;clear hw;intro w hw)|(refine qab ?_;clear hw;intro s w hw))
 refine go_if (fun h1 => ?_) (fun h1 => ?_)
 ·have e1:rchD D g v=D.set g.toNat v:=if_pos h1
  have e2:rchQ D Q g v=⟨v,g⟩::Q:=if_pos h1
  rw [e1,e2]
  repeat (first|refine qac ?_|(refine qaa ?_;clear hw;intro p w hw)|(refine qad ?_;clear hw;intro w hw)|(refine qab ?_;clear hw;intro s w hw))
  refine qag rfl (qet (v:=⟨v,g⟩) hQ hql hw) ?_
  clear hw
  rintro _ w ⟨rfl,qv',Q',h2,h3,hw⟩
  refine⟨_,rfl,?_⟩
  repeat (first|refine qac ?_|(refine qaa ?_;clear hw;intro p w hw)|(refine qad ?_;clear hw;intro w hw)|(refine qab ?_;clear hw;intro s w hw))
  exact qa0 rfl ⟨rfl,qv',Q',h2,h3,hw⟩
 ·have e1:rchD D g v=D:=if_neg (Int.not_lt.2 h1)
  have e2:rchQ D Q g v=Q:=if_neg (Int.not_lt.2 h1)
  rw [e1,e2]
  repeat (first|refine qac ?_|(refine qaa ?_;clear hw;intro p w hw)|(refine qad ?_;clear hw;intro w hw)|(refine qab ?_;clear hw;intro s w hw))
  exact qa0 rfl ⟨rfl,qv,Q,hQ,.refl _,hw⟩
theorem qkK (n:Nat) (v:Int):fillL n (fun _=>v) n=List.replicate n v:=by
 apply List.ext_getElem (by simp [fillL])
 intro i h1 h2
 simp only [fillL,List.getElem_map,List.getElem_range,List.getElem_replicate]
 rw [if_pos (by simpa [fillL] using h1)]
theorem qmG (dn l:List Int):lft dn l≤l.length:=List.length_filter_le _ _
theorem qkL {w:World}{v:UnV}{u:Un}(h:RUn w v u):(tUn.enc v).all Value.oneCell'=true:=by
 have h1:=h.needs.one
 show ((Value.int .i64 v.op).oneCell' && ((Value.int .i64 v.eff).oneCell' && ((Value.int .i64 v.cost).oneCell' && ((Value.int .i64 v.makes).oneCell' && (v.needs.oneCell' && true)))))=true
 rw [h1];rfl
instance rlxMapT:MapT Tryz.prog 209 3 4:=⟨by kernel_rfl⟩
instance rlxZeroB:ZeroV Tryz.prog 4 (.bool false):=⟨by kernel_rfl⟩
set_option maxRecDepth 8000 in
set_option maxHeartbeats 16000000 in
theorem qgk {w0:World}{pr:Addr}{sv:Value}{t:TTask}{z:List Int}(hr:RRlx w0 pr t) (hg:GoodT t) (hs:RS tInt w0 sv z) (hok:StateOk t.vars z) :
  Calls Tryz.prog 129 #[.pointer (some pr),sv,.map none] w0 fun e w'=>∃ ov out,e=.returned ov∧IsHM t z out∧Sat w0 w' [OS tInt 3 ov out]:=by
 obtain⟨a,c,fv,uv,nv,frv,us,ss,hbx,ha,hc,hf,huv,hul,hU,hnv,hssl,hnd,hfr⟩:=hr.ex
 obtain⟨U,hUe⟩:∃ U,U=unT t:=⟨_,rfl⟩
 rw [←hUe] at hul hU hnd hfr
 have hUok:UnOk U (factN t):=by rw [hUe];exact qlf hg
 have hUl:U.length≤262144:=by
  have h1:=qgq hg (k:=t.ops.length) (Nat.le_refl _)
  have h2:=hg.ops
  rw [hUe];unfold unT;omega
 have hN:=qhg hg
 have hvl:=hg.vars
 have hsl:=hok.1
 obtain⟨N,hNe⟩:∃ N,N=factN t:=⟨_,rfl⟩
 rw [←hNe] at hbx hssl hnd hUok hN
 have hfN:(N:Int)=firstV t.vars t.vars.length:=by rw [hNe];exact qcF hg
 have hr0:(List.replicate ((N:Nat):Int).toNat (0:Int)).length=N:=by simp
 have hr1:(List.replicate ((us.length:Nat):Int).toNat (0:Int)).length=U.length:=by simp [hul]
 have hw:=Sat.start w0
 refine qaf (args:=[.pointer (some pr),sv,.map none]) mixed Tryz.func129 rfl (by kernel_rfl) (Nat.le_of_ble_eq_true rfl) ?_
 repeat (first|refine qac ?_|(refine qaa ?_;clear hw;intro p w hw)|(refine qae ?_;clear hw;intro w hw)|(refine qab ?_;clear hw;intro s w hw))
 obtain⟨p7,hp7⟩:∃ p7,p7=p:=⟨p,rfl⟩
 subst hp7
 obtain⟨ov,hov⟩:∃ ov,ov=s:=⟨s,rfl⟩
 subst hov
 have hw1:Sat w0 w [OS tInt 3 ov (fillL N (fun _=>inf) 0),Box p7 22 [ov]]:=by
  rw [Int.toNat_natCast,←qeE N (fun _=>inf)] at hw
  exact hw.swap
 clear hw
 have hw:=hw1
 clear hw1
 refine qao [8,30,31,32,33,34,35,36] (G:=Nat) (fun k=>[(30,.int .i64 k)]) (fun k w=>k≤N∧Sat w0 w [OS tInt 3 ov (fillL N (fun _=>inf) k),Box p7 22 [ov]]) (fun k=>N-k) 0 (fun _=>rfl) ⟨rfl,trivial⟩ ⟨Nat.zero_le _,hw⟩ ?_
 clear hw
 rintro σ k w ⟨hk,hw⟩
 have hml:=qcJ N (fun _=>inf) k
 repeat (first|refine qac ?_|(refine qaa ?_;clear hw;intro p w hw)|(refine qad ?_;clear hw;intro w hw)|(refine qab ?_;clear hw;intro s w hw))
 refine go_if (fun h1 => ?_) (fun h1 => ?_)
 ·have hkl:k<N:=by omega
  repeat (first|refine qac ?_|(refine qaa ?_;clear hw;intro p w hw)|(refine qad ?_;clear hw;intro w hw)|(refine qab ?_;clear hw;intro s w hw))
  rw [show (1125899906842624:Int)=(fun _:Nat=>inf) k from rfl,qfH] at hw
  exact⟨k+1,⟨rfl,trivial⟩,agr,⟨by omega,hw⟩,by omega⟩
 have hke:k=N:=by omega
 subst hke
 clear hml h1
 rw [qkK] at hw
 repeat (first|refine qac ?_|(refine qaa ?_;clear hw;intro p w hw)|(refine qae ?_;clear hw;intro w hw)|(refine qab ?_;clear hw;intro s w hw))
 obtain⟨lv,hlv⟩:∃ lv,lv=s:=⟨s,rfl⟩
 subst hlv
 have hlfl:=qcJ U.length (fun i=>((un U (i:Int)).needs.length:Int)) 0
 have hw1:Sat w0 w [OS tInt 3 lv (fillL U.length (fun i=>((un U (i:Int)).needs.length:Int)) 0),OS tInt 3 ov (List.replicate k inf),Box p7 22 [ov]]:=by
  rw [Int.toNat_natCast,hul,←qeE U.length (fun i=>((un U (i:Int)).needs.length:Int))] at hw
  exact hw
 clear hw
 have hw:=hw1
 clear hw1
 refine qao [10,11,48,49,50,51,52,53,54,55,56,57,58,59] (G:=Nat) (fun j=>[(48,.int .i64 j)]) (fun j w=>j≤U.length∧Sat w0 w [OS tInt 3 lv (fillL U.length (fun i=>((un U (i:Int)).needs.length:Int)) j),OS tInt 3 ov (List.replicate k inf),Box p7 22 [ov]]) (fun j=>U.length-j) 0 (fun _=>rfl) ⟨rfl,trivial⟩ ⟨Nat.zero_le _,hw⟩ ?_
 clear hw hlfl
 rintro σ1 j w ⟨hj,hw⟩
 have hml:=qcJ U.length (fun i=>((un U (i:Int)).needs.length:Int)) j
 repeat (first|refine qac ?_|(refine qaa ?_;clear hw;intro p w hw)|(refine qad ?_;clear hw;intro w hw)|(refine qab ?_;clear hw;intro s w hw))
 refine go_if (fun h1 => ?_) (fun h1 => ?_)
 ·have hjl:j<U.length:=by omega
  have hu:=hU j hjl
  have huo:=qkL hu
  have hun:=hu.needs
  repeat (first|refine qac ?_|(refine qaa ?_;clear hw;intro p w hw)|(refine qad ?_;clear hw;intro w hw)|(refine qab ?_;clear hw;intro s w hw))
  rw [show (((un U (j:Int)).needs.length:Nat):Int)=(fun i:Nat=>((un U (i:Int)).needs.length:Int)) j from rfl,qfH] at hw
  exact⟨j+1,⟨rfl,trivial⟩,agr,⟨by omega,hw.tail⟩,by omega⟩
 have hje:j=U.length:=by omega
 subst hje
 clear hml h1
 repeat (first|refine qac ?_|(refine qaa ?_;clear hw;intro p w hw)|(refine qae ?_;clear hw;intro w hw)|(refine qab ?_;clear hw;intro s w hw))
 obtain⟨p12,hp12⟩:∃ p12,p12=p:=⟨p,rfl⟩
 subst hp12
 obtain⟨lf,hlf⟩:∃ lf,lf=fillL U.length (fun i=>((un U (i:Int)).needs.length:Int)) U.length:=⟨_,rfl⟩
 have hlfl:lf.length=U.length:=by rw [hlf,qcJ]
 have hlfa:∀ i:Nat,i<U.length→dg lf i=(un U i).needs.length:=fun i hi=>by
  rw [hlf];unfold dg;rw [Int.toNat_natCast,qkq hi hi]
 have hw1:Sat w0 w (OS tItem 215 (.slice none 0 0) ([]:List Item)::Box p12 211 [(.slice none 0 0)]::OS tInt 3 ov (List.replicate k inf)::Box p7 22 [ov]::[OS tInt 3 lv lf]):=by
  have g1:Sat w0 w [Box p12 211 [.slice none 0 0],OS tInt 3 lv lf,OS tInt 3 ov (List.replicate k inf),Box p7 22 [ov]]:=by rw [hlf];exact hw
  exact (g1.nil (T:=tItem) (e:=215)).selG
 clear hw
 have hw:=hw1
 clear hw1
 obtain⟨S,hS⟩:∃ S,S=StF t.vars z:=⟨_,rfl⟩
 refine qao [14,15,63,64,65,66,67,68,69,70,71,72,73,74,75,76,77,78,79] (G:=Nat) (fun j=>[(63,.int .i64 j)]) (fun j w=>j≤z.length∧∃ qv Q D,RI0 U S k D Q∧IsHeap tItem.dflt ilt Q∧Q.length≤j∧(∀ v:Nat,v<j→dg D (firstV t.vars v+z.getD v tInt.dflt)≤0)∧Sat w0 w (OS tItem 215 qv Q::Box p12 211 [qv]::OS tInt 3 ov D::Box p7 22 [ov]::[OS tInt 3 lv lf])) (fun j=>z.length-j) 0 (fun _=>rfl) ⟨rfl,trivial⟩ ⟨Nat.zero_le _,_,_,_,RI0.init U S k,fun i h0 h1=>absurd h1 (Nat.not_lt_zero _),Nat.le_refl _,fun v hv=>absurd hv (Nat.not_lt_zero _),hw⟩ ?_
 clear hw
 rintro σ2 j w ⟨hj,qv,Q,D,hI,hQ,hQl,hst,hw⟩
 repeat (first|refine qac ?_|(refine qaa ?_;clear hw;intro p w hw)|(refine qad ?_;clear hw;intro w hw)|(refine qab ?_;clear hw;intro s w hw))
 refine go_if (fun h1 => ?_) (fun h1 => ?_)
 ·have hjl:j<z.length:=by omega
  have hjv:j<t.vars.length:=by omega
  obtain⟨g0,g1,g2⟩:=qlq hg.pos (fun i hi=>(hg.dom i hi).2) hvl hjv
  have hz:=hok.2 j hjl
  have hdm:=hg.dom j hjv
  have hbd:=qgp hg.pos hjv hz.1 hz.2
  have hfl:=qfa t.vars t.vars.length
  repeat (first|refine qac ?_|(refine qaa ?_;clear hw;intro p w hw)|(refine qae ?_;clear hw;intro w hw)|(refine qab ?_;clear hw;intro s w hw))
  refine qa9 (cs:=[.pointer (some p7),.pointer (some p12)]) rfl rfl (qcA hI.dl (by rw [g0,hfN];exact hbd) hQ (by omega) hw) ?_
  clear hw
  rintro _ w ⟨rfl,qv2,Q2,hQ2,hp2,hw⟩
  refine⟨_,rfl,?_⟩
  rw [g0] at hp2 hw
  have hbd2:0≤firstV t.vars j+z.getD j tInt.dflt∧firstV t.vars j+z.getD j tInt.dflt<(k:Int):=by rw [hfN];exact hbd
  have hI2:=(hI.rch hbd2 (Int.le_refl 0) (.start (by rw [hS];exact⟨j,hjv,rfl⟩))).perm hp2
  have hl2:=qe8 D Q (firstV t.vars j+z.getD j tInt.dflt) 0
  have hl3:=hp2.length_eq
  repeat (first|refine qac ?_|(refine qaa ?_;clear hw;intro p w hw)|(refine qae ?_;clear hw;intro w hw)|(refine qab ?_;clear hw;intro s w hw))
  refine⟨j+1,⟨rfl,trivial⟩,agr,⟨by omega,qv2,Q2,_,hI2,hQ2,by omega,fun v hv => ?_,hw⟩,by omega⟩
  by_cases e:v=j
  ·rw [e];exact qi4 hI.dl hbd2
  ·have hvv:v<t.vars.length:=by omega
   have h5:=hok.2 v (by omega)
   have h6:=qgp hg.pos hvv h5.1 h5.2
   exact Int.le_trans (qhv hI.dl hbd2 h6.1) (hst v (by omega))
 have hje:j=z.length:=by omega
 rw [hje] at hst hQl
 clear hje h1 hj
 have hfrl:=qhz U
 have hst':∀ g,S g→0≤g∧g<(k:Int)∧dg D g≤0:=fun g hg'=>by
  rw [hS] at hg'
  obtain⟨v,hv,rfl⟩:=hg'
  have h5:=hok.2 v (by omega)
  have h6:=qgp hg.pos hv h5.1 h5.2
  rw [←hfN] at h6
  exact⟨h6.1,h6.2,hst v (by omega)⟩
 clear hst
 repeat (first|refine qac ?_|(refine qaa ?_;clear hw;intro p w hw)|(refine qae ?_;clear hw;intro w hw)|(refine qab ?_;clear hw;intro s w hw))
 refine qao [17,85,86,87,88,89,90,91,92,93,94,95,96,97,98,99,100,101,102,103,104,105,106,107,108,109,110,111,112,113,114,115,116,117,118] (G:=Nat) (fun j=>[(85,.int .i64 j)]) (fun j w=>j≤(freL U).length∧∃ qv Q D,RI0 U S k D Q∧IsHeap tItem.dflt ilt Q∧Q.length≤z.length+j∧(∀ g,S g→0≤g∧g<(k:Int)∧dg D g≤0)∧(∀ i:Nat,i<U.length→(i:Int)∈(freL U).take j→dg D (un U i).makes≤(un U i).cost)∧Sat w0 w (OS tItem 215 qv Q::Box p12 211 [qv]::OS tInt 3 ov D::Box p7 22 [ov]::[OS tInt 3 lv lf])) (fun j=>(freL U).length-j) 0 (fun _=>rfl) ⟨rfl,trivial⟩ ⟨Nat.zero_le _,qv,Q,D,hI,hQ,hQl,hst',fun i _ h=>by simp at h,hw⟩ ?_
 clear hw hI hQ hQl hst'
 clear qv Q D
 rintro σ3 j w ⟨hj,qv,Q,D,hI,hQ,hQl,hst,hfre,hw⟩
 repeat (first|refine qac ?_|(refine qaa ?_;clear hw;intro p w hw)|(refine qad ?_;clear hw;intro w hw)|(refine qab ?_;clear hw;intro s w hw))
 refine go_if (fun h1 => ?_) (fun h1 => ?_)
 ·have hjl:j<(freL U).length:=by omega
  obtain⟨i,hie,hil,hin⟩:=qhy.1 (qan tInt.dflt hjl)
  have hu:=hU i hil
  have huop:=hu.op
  have huco:=hu.cost
  have humk:=hu.makes
  have hib:((freL U).getD j tInt.dflt).toNat=i:=by rw [hie];rfl
  have hb0:0≤(freL U).getD j tInt.dflt∧(freL U).getD j tInt.dflt<(us.length:Int):=by rw [hie,hul];omega
  repeat (first|refine qac ?_|(refine qaa ?_;clear hw;intro p w hw)|(refine qae ?_;clear hw;intro w hw)|(refine qab ?_;clear hw;intro s w hw))
  refine qaN rfl (qdt (κ:=kInt) (q:=(eget tUn us ((freL U).getD j tInt.dflt).toNat).op) rfl rfl) ?_
  repeat (first|refine qac ?_|(refine qaa ?_;clear hw;intro p w hw)|(refine qae ?_;clear hw;intro w hw)|(refine qab ?_;clear hw;intro s w hw))
  refine qay [.op 0,.op 1,.op 2,.op 3,.op 4,.op 5,.op 6,.op 7,.op 8,.op 9,.op 10,.op 11,.op 12,.op 13,.op 14,.op 15,.op 16,.op 17] hw (by kernel_rfl) ?_;clear hw;intro w hw
  repeat (first|refine qac ?_|(refine qaa ?_;clear hw;intro p w hw)|(refine qae ?_;clear hw;intro w hw)|(refine qab ?_;clear hw;intro s w hw))
  have hmr:=hUok.makes i hil
  have hcr:=hUok.cost i hil
  refine qa9 (cs:=[.pointer (some p7),.pointer (some p12)]) rfl rfl (qcA hI.dl (by rw [hib,humk];exact hmr) hQ (by omega) hw) ?_
  clear hw
  rintro _ w ⟨rfl,qv2,Q2,hQ2,hp2,hw⟩
  refine⟨_,rfl,?_⟩
  rw [hib,humk,huco] at hp2 hw
  have hder:Der U S (un U i).makes (un U i).cost:=by
   have h5:=Der.fire (U:=U) (S:=S) (v:=fun _=>0) (m:=0) hil (Int.le_refl 0) (fun n hn=>by rw [hin] at hn;simp at hn) (fun n hn=>by rw [hin] at hn;simp at hn)
   rwa [Int.add_zero] at h5
  have hI2:=(hI.rch hmr hcr.1 hder).perm hp2
  have hl2:=qe8 D Q (un U i).makes (un U i).cost
  have hl3:=hp2.length_eq
  repeat (first|refine qac ?_|(refine qaa ?_;clear hw;intro p w hw)|(refine qae ?_;clear hw;intro w hw)|(refine qab ?_;clear hw;intro s w hw))
  refine⟨j+1,⟨rfl,trivial⟩,agr,⟨by omega,qv2,Q2,_,hI2,hQ2,by omega,fun g hg' => ?_,fun i' hi' hm => ?_,hw⟩,by omega⟩
  ·obtain⟨b1,b2,b3⟩:=hst g hg'
   exact⟨b1,b2,Int.le_trans (qhv hI.dl hmr b1) b3⟩
  ·rw [qav tInt.dflt hjl,hie] at hm
   rcases List.mem_append.1 hm with hm|hm
   ·exact Int.le_trans (qhv hI.dl hmr (hUok.makes i' hi').1) (hfre i' hi' hm)
   ·have e:i'=i:=by have:=List.mem_singleton.1 hm;omega
    rw [e];exact qi4 hI.dl hmr
 have hje:j=(freL U).length:=by omega
 rw [hje] at hQl hfre
 clear hje h1 hj
 rw [List.take_length] at hfre
 repeat (first|refine qac ?_|(refine qaa ?_;clear hw;intro p w hw)|(refine qae ?_;clear hw;intro w hw)|(refine qab ?_;clear hw;intro s w hw))
 obtain⟨dv,hdv⟩:∃ dv,dv=s:=⟨s,rfl⟩
 subst hdv
 have hR0:=hI.start hlfl hlfa (fun i hi=>(hUok.cost i hi).1) (fun i hi hn=>hfre i hi (qhy.2 ⟨i,rfl,hi,hn⟩))
 have hw1:Sat w0 w (OS tItem 215 qv Q::Box p12 211 [qv]::OS tInt 3 ov D::Box p7 22 [ov]::[OS tInt 3 lv lf,OS tBool 4 dv (dnL [] k)]):=by
  rw [Int.toNat_natCast,←ql5] at hw
  exact hw.selG
 clear hw
 have hw:=hw1
 clear hw1
 refine qat [19,20,22,124,125,126,127,128,129,130,131,132,133,134,135,136,137,138,139,140,141,142,143,144,145,146,147,148,149,150,151,152,153,154,155,156,157,158,159,160,161,162,163,164,165,166,167,168,169,170,171,172,173,174,175,176,177,178,179,180,181,182,183,184,185,186,187,188,189,190,191,192,193,194,195,196,197,198,199,200,201,202,203,204] (G:=List Int) (H:=List Item) (fun _ _=>[]) (fun dn Q w=>∃ qv D lf m f,RI U S k D lf dn Q m f (fun _=>True)∧IsHeap tItem.dflt ilt Q∧dn.Nodup∧Q.length≤z.length+U.length+dn.length*U.length∧(∀ g,S g→0≤g∧g<(k:Int)∧dg D g≤0)∧Sat w0 w (OS tItem 215 qv Q::Box p12 211 [qv]::OS tInt 3 ov D::Box p7 22 [ov]::[OS tInt 3 lv lf,OS tBool 4 dv (dnL dn k)])) (fun dn Q=>(k-dn.length)*(U.length+1)+Q.length) [] Q (fun _ _=>rfl) trivial ⟨qv,D,lf,0,0,hR0,hQ,List.nodup_nil,by simp;omega,hst,hw⟩ ?_
 clear hw hI hR0 hQ hQl hst hfre hlfa hlfl hlf
 clear qv Q D lf
 rintro σ4 dn Q w ⟨qv,D,lf,m,f,hI,hQ,hdn,hQl,hst,hw⟩
 have hdl:=qbL hdn fun g hg'=>(hI.set g hg').1
 have hmul:=Nat.mul_le_mul (show dn.length≤4096 by omega) hUl
 repeat (first|refine qac ?_|(refine qaa ?_;clear hw;intro p w hw)|(refine qae ?_;clear hw;intro w hw)|(refine qab ?_;clear hw;intro s w hw))
 refine qag rfl (qdq (rsO (s:=qv) hw)) ?_
 rintro _ w' ⟨rfl,hk'⟩
 replace hw:=hw.call0 hk'
 clear hk'
 refine⟨_,rfl,?_⟩
 repeat (first|refine qac ?_|(refine qaa ?_;clear hw;intro p w hw)|(refine qae ?_;clear hw;intro w hw)|(refine qab ?_;clear hw;intro s w hw))
 refine go_if (fun h1 => ?_) (fun h1 => ?_)
 ·have hql:0<Q.length:=by omega
  repeat (first|refine qac ?_|(refine qaa ?_;clear hw;intro p w hw)|(refine qae ?_;clear hw;intro w hw)|(refine qab ?_;clear hw;intro s w hw))
  refine qag rfl (qey hQ hql (by omega) hw) ?_
  clear hw
  rintro _ w ⟨x,qv2,ys,rfl,hys,hp,hmin,hw⟩
  refine⟨_,rfl,?_⟩
  have hpl:=hp.length_eq
  rw [List.length_cons] at hpl
  have hI1:=hI.perm hp.symm
  obtain⟨⟨x0,x1⟩,x2,x3,x4⟩:=hI1.ent x List.mem_cons_self
  have hdl2:=ql4 dn k
  have hm0:=hI.m0
  have e3:inf=1125899906842624:=rfl
  repeat (first|refine qac ?_|(refine qaa ?_;clear hw;intro p w hw)|(refine qae ?_;clear hw;intro w hw)|(refine qab ?_;clear hw;intro s w hw))
  obtain⟨p19,hp19⟩:∃ p19,p19=p:=⟨p,rfl⟩
  subst hp19
  rw [qmF x0 x1]
  by_cases hx:x.state∈dn
  ·have hd:decide (x.state∈dn)=true:=decide_eq_true hx
   simp only [hd]
   repeat (first|refine qac ?_|(refine qaa ?_;clear hw;intro p w hw)|(refine qae ?_;clear hw;intro w hw)|(refine qab ?_;clear hw;intro s w hw))
   exact⟨dn,ys,trivial,agr,⟨qv2,D,lf,m,f,hI1.skip hx,hys,hdn,by omega,hst,hw.tail⟩,by omega⟩
  have hd:decide (x.state∈dn)=false:=decide_eq_false hx
  simp only [hd]
  obtain⟨hT,hTd,_,hT0,hT1⟩:=hI1.take hUok hx (fun y hy=>by
   have h5:ilt y x=false:=hmin y (hp.mem_iff.2 (List.mem_cons_of_mem _ hy))
   exact Int.not_lt.1 (of_decide_eq_false h5))
  have hdn2:(x.state::dn).Nodup:=List.nodup_cons.2 ⟨hx,hdn⟩
  have hdl3:=qbL hdn2 fun g hg'=>(hT.set g hg').1
  rw [List.length_cons] at hdl3
  have hnl:=qhx U x.state
  have hrow:RS tInt w0 (vget ss x.state.toNat) (nedL U x.state):=by
   have h5:=hnd x.state.toNat (by omega)
   rwa [Int.toNat_of_nonneg x0] at h5
  repeat (first|refine qac ?_|(refine qaa ?_;clear hw;intro p w hw)|(refine qae ?_;clear hw;intro w hw)|(refine qab ?_;clear hw;intro s w hw))
  refine qb2 ?_
  clear hw
  intro w hw
  rw [ql6 x0 x1] at hw
  repeat (first|refine qac ?_|(refine qaa ?_;clear hw;intro p w hw)|(refine qae ?_;clear hw;intro w hw)|(refine qab ?_;clear hw;intro s w hw))
  have hw1:Sat w0 w (OS tItem 215 qv2 ys::Box p12 211 [qv2]::OS tInt 3 ov D::Box p7 22 [ov]::[OS tInt 3 lv lf,OS tBool 4 dv (dnL (x.state::dn) k),Box p19 215 [.int .i64 x.dist,.int .i64 x.state]]):=hw.selG
  clear hw
  have hw:=hw1
  clear hw1
  have hT2:=hT.okc (ok':=fun i=>x.state∉(un U i).needs∨(i:Int)∈(nedL U x.state).take 0) (fun i=>by simp)
  refine qao [22,155,156,157,158,159,160,161,162,163,164,165,166,167,168,169,170,171,172,173,174,175,176,177,178,179,180,181,182,183,184,185,186,187,188,189,190,191,192,193,194,195,196,197,198,199,200,201,202,203,204] (G:=Nat) (fun j=>[(155,.int .i64 j)]) (fun j w=>j≤(nedL U x.state).length∧∃ qv Q D lf,RI U S k D lf (x.state::dn) Q x.dist x.state (fun i=>x.state∉(un U i).needs∨(i:Int)∈(nedL U x.state).take j)∧IsHeap tItem.dflt ilt Q∧Q.length≤ys.length+j∧dg D x.state=x.dist∧(∀ g,S g→0≤g∧g<(k:Int)∧dg D g≤0)∧Sat w0 w (OS tItem 215 qv Q::Box p12 211 [qv]::OS tInt 3 ov D::Box p7 22 [ov]::[OS tInt 3 lv lf,OS tBool 4 dv (dnL (x.state::dn) k),Box p19 215 [.int .i64 x.dist,.int .i64 x.state]])) (fun j=>(nedL U x.state).length-j) 0 (fun _=>rfl) ⟨rfl,trivial⟩ ⟨Nat.zero_le _,qv2,ys,D,lf,hT2,hys,Nat.le_refl _,hTd,hst,hw⟩ ?_
  clear hw hI hI1 hT hT2 hQ hp hmin hTd hst x2 hys
  rintro σ5 j w ⟨hj,qv,Q5,D,lf,hI,hQ,hQ5,hDx,hst,hw⟩
  have hlfl:=hI.ll
  repeat (first|refine qac ?_|(refine qaa ?_;clear hw;intro p w hw)|(refine qad ?_;clear hw;intro w hw)|(refine qab ?_;clear hw;intro s w hw))
  refine go_if (fun h2 => ?_) (fun h2 => ?_)
  ·have hjl:j<(nedL U x.state).length:=by omega
   obtain⟨i,hie,hil,hin⟩:=qhE.1 (qan tInt.dflt hjl)
   have hu:=hU i hil
   have huop:=hu.op
   have huco:=hu.cost
   have humk:=hu.makes
   have hib:((nedL U x.state).getD j tInt.dflt).toNat=i:=by rw [hie];rfl
   have hb0:0≤(nedL U x.state).getD j tInt.dflt∧(nedL U x.state).getD j tInt.dflt<(us.length:Int):=by rw [hie,hul];omega
   have hb1:(nedL U x.state).getD j tInt.dflt<(lf.length:Int):=by rw [hlfl,←hul];exact hb0.2
   have hnot:¬(x.state∉(un U i).needs∨(i:Int)∈(nedL U x.state).take j):=by
    rintro (h5|h5)
    ·exact h5 hin
    ·obtain⟨i2,hi2,he2⟩:=List.getElem_of_mem h5
     rw [List.getElem_take] at he2
     rw [List.length_take] at hi2
     have h6:=List.pairwise_iff_getElem.1 (qie U x.state) i2 j (by omega) hjl (by omega)
     rw [qak hjl] at hie
     exact h6 (by rw [he2,hie])
   obtain⟨hl1,hl2⟩:=hI.lft2 i hil hnot
   have hl3:=qmG dn (un U i).needs
   have hl5:=qjw hx (hUok.nd i hil) hin
   have hl4:=hu.needs.big
   have hlv:lf.getD ((nedL U x.state).getD j tInt.dflt).toNat tInt.dflt=dg lf i:=by rw [hib];rfl
   have hlb:1≤dg lf i∧dg lf i≤9223372036854775807:=by omega
   have hset:(lf.set ((nedL U x.state).getD j tInt.dflt).toNat (lf.getD ((nedL U x.state).getD j tInt.dflt).toNat tInt.dflt-1))=lf.set i (dg lf i-1):=by rw [hib];rfl
   have hsl2:(lf.set ((nedL U x.state).getD j tInt.dflt).toNat (lf.getD ((nedL U x.state).getD j tInt.dflt).toNat tInt.dflt-1)).length=lf.length:=by simp
   have hget:(lf.set ((nedL U x.state).getD j tInt.dflt).toNat (lf.getD ((nedL U x.state).getD j tInt.dflt).toNat tInt.dflt-1)).getD ((nedL U x.state).getD j tInt.dflt).toNat tInt.dflt=dg lf i-1:=by
    rw [hset,hib]
    have:i<lf.length:=by omega
    simp [List.getD,this]
   have hok1:∀ i':Nat,(x.state∉(un U i').needs∨(i':Int)∈(nedL U x.state).take j)∨i'=i↔x.state∉(un U i').needs∨(i':Int)∈(nedL U x.state).take (j+1):=fun i'=>by
    rw [qav tInt.dflt hjl,hie]
    simp only [List.mem_append,List.mem_singleton]
    constructor
    ·rintro ((h|h)|h)
     ·exact .inl h
     ·exact .inr (.inl h)
     ·exact .inr (.inr (by rw [h]))
    ·rintro (h|h|h)
     ·exact .inl (.inl h)
     ·exact .inl (.inr h)
     ·exact .inr (by omega)
   repeat (first|refine qac ?_|(refine qaa ?_;clear hw;intro p w hw)|(refine qae ?_;clear hw;intro w hw)|(refine qab ?_;clear hw;intro s w hw))
   rw [hget]
   rw [hset] at hw
   by_cases hz0:dg lf i-1=0
   ·have hd0:decide (dg lf i-1=0)=true:=decide_eq_true hz0
    simp only [hd0,beq_self_eq_true,qbu,qbv,Bool.false_and,Bool.true_and,Bool.not_true,Bool.not_false,Bool.cond_true,Bool.cond_false,gv_fI,gv_tI]
    repeat (first|refine qac ?_|(refine qaa ?_;clear hw;intro p w hw)|(refine qae ?_;clear hw;intro w hw)|(refine qab ?_;clear hw;intro s w hw))
    refine qaN rfl (qdt (κ:=kInt) (q:=(eget tUn us ((nedL U x.state).getD j tInt.dflt).toNat).op) rfl rfl) ?_
    repeat (first|refine qac ?_|(refine qaa ?_;clear hw;intro p w hw)|(refine qae ?_;clear hw;intro w hw)|(refine qab ?_;clear hw;intro s w hw))
    have hmr:=hUok.makes i hil
    have hcr:=hUok.cost i hil
    have hcu:(eget tUn us ((nedL U x.state).getD j tInt.dflt).toNat).cost=(un U i).cost:=by rw [hib];exact huco
    have hmu:(eget tUn us ((nedL U x.state).getD j tInt.dflt).toNat).makes=(un U i).makes:=by rw [hib];exact humk
    refine qay [.op 0,.op 1,.op 2,.op 3,.op 4,.op 5,.op 6,.op 7,.op 8,.op 9,.op 10,.op 11,.op 12,.op 13,.op 14,.op 15,.op 16,.op 17,.op 18,.op 19,.op 20] hw (by kernel_rfl) ?_;clear hw;intro w hw
    repeat (first|refine qac ?_|(refine qaa ?_;clear hw;intro p w hw)|(refine qae ?_;clear hw;intro w hw)|(refine qab ?_;clear hw;intro s w hw))
    refine qa9 (cs:=[.pointer (some p7),.pointer (some p12)]) rfl rfl (qcA hI.dl (by rw [hmu];exact hmr) hQ (by omega) hw) ?_
    clear hw
    rintro _ w ⟨rfl,qv6,Q6,hQ6,hp6,hw⟩
    refine⟨_,rfl,?_⟩
    rw [hmu,hcu] at hp6 hw
    have hfd:=hI.fired hil hnot hz0 (hUok.needs i hil)
    have hI2:=(hI.rch (v:=x.dist+(un U i).cost) hmr (by omega) hfd).perm hp6
    have hat:=qi4 (v:=x.dist+(un U i).cost) hI.dl hmr
    have hke2:=qky (v:=x.dist+(un U i).cost) hI.dl hmr x0 hDx (by omega)
    have hl7:=qe8 D Q5 (un U i).makes (x.dist+(un U i).cost)
    have hl8:=hp6.length_eq
    have hI3:=(hI2.count hil hnot (.inr hat) hke2).okc hok1
    repeat (first|refine qac ?_|(refine qaa ?_;clear hw;intro p w hw)|(refine qae ?_;clear hw;intro w hw)|(refine qab ?_;clear hw;intro s w hw))
    refine⟨j+1,⟨rfl,trivial⟩,agr,⟨by omega,qv6,Q6,_,_,hI3,hQ6,by omega,hke2,fun g hg' => ?_,hw⟩,by omega⟩
    obtain⟨b1,b2,b3⟩:=hst g hg'
    exact⟨b1,b2,Int.le_trans (qhv hI.dl hmr b1) b3⟩
   ·have hd0:decide (dg lf i-1=0)=false:=decide_eq_false hz0
    simp only [hd0,beq_self_eq_true,qbu,qbv,Bool.false_and,Bool.true_and,Bool.not_true,Bool.not_false,Bool.cond_true,Bool.cond_false,gv_fI,gv_tI]
    repeat (first|refine qac ?_|(refine qaa ?_;clear hw;intro p w hw)|(refine qae ?_;clear hw;intro w hw)|(refine qab ?_;clear hw;intro s w hw))
    have hI3:=(hI.count hil hnot (.inl hz0) hDx).okc hok1
    exact⟨j+1,⟨rfl,trivial⟩,agr,⟨by omega,qv,Q5,D,_,hI3,hQ,by omega,hDx,hst,hw⟩,by omega⟩
  have hje:j=(nedL U x.state).length:=by omega
  rw [hje] at hI hQ5
  rw [List.take_length] at hI
  have hI2:=hI.okc (ok':=fun _=>True) (fun i=>⟨fun _=>trivial,fun _=>by
   by_cases h5:x.state∈(un U i).needs
   ·by_cases h6:i<U.length
    ·exact .inr (qhE.2 ⟨i,rfl,h6,h5⟩)
    ·have h7:un U i=dUn:=by unfold un;simp [List.getD,Nat.le_of_not_lt h6]
     rw [h7] at h5;simp [dUn] at h5
   ·exact .inl h5⟩)
  repeat (first|refine qac ?_|(refine qaa ?_;clear hw;intro p w hw)|(refine qae ?_;clear hw;intro w hw)|(refine qab ?_;clear hw;intro s w hw))
  have hmm:=Nat.succ_mul (k-(dn.length+1)) (U.length+1)
  rw [show (k-(dn.length+1)).succ=k-dn.length by omega] at hmm
  refine⟨x.state::dn,Q5,trivial,agr,⟨qv,D,lf,x.dist,x.state,hI2,hQ,hdn2,?_,hst,hw.selG⟩,?_⟩
  ·rw [List.length_cons,Nat.succ_mul];omega
  ·rw [List.length_cons];omega
 have hQ0:Q=[]:=List.eq_nil_of_length_eq_zero (by omega)
 rw [hQ0] at hI
 repeat (first|refine qac ?_|(refine qaa ?_;clear hw;intro p w hw)|(refine qae ?_;clear hw;intro w hw)|(refine qab ?_;clear hw;intro s w hw))
 refine qai (v:=ov) rfl rfl ⟨ov,D,rfl,⟨by rw [hI.dl,hNe],by rw [←hNe];exact hI.rng,?_,?_⟩,hw.sel⟩
 ·rw [←hNe,←hUe,←hS];exact hI.der
 ·rw [←hNe,←hUe,←hS]
  exact hI.fin hUok hst
end Go.Proofs.YtdadmnlenbdfbaaGreat
