/-
  Contract of the abstraction's 'construct'.
-/
import Derived.Test.YtjdlohdcdmhigaaGreatDoorWAtm
set_option linter.unusedSimpArgs false
set_option linter.unusedVariables false
namespace Go.Proofs.YtjdlohdcdmhigaaGreatDoor
open Go.Sl Go
attribute [local irreducible] vc opsW opsD opV opW PureV ReadV Thn Blk
theorem qmk {n k:Nat}(h:k<n):(sameL n).getD k tInt.dflt=(k:Int):=by simp [sameL,List.getD,h]
structure CnI (t:TTask) (X:CnS) (k:Nat):Prop where
 st1:1≤X.cur.st
 st2:X.cur.st≤4096
 ch:Ch t.vars X.sts X.cur.st
 len:X.sts.length=k
set_option maxRecDepth 8000 in
set_option maxHeartbeats 40000000 in
theorem qlM {w0 w:World}{Γ:List HP}{pa:Addr}{vv dv a b c d ov:Value}{ex0:Bool}{vs:List OpV}{t:TTask}{M:Nat}(hw:Sat w0 w (Box pa 92 [vv,.slice none 0 0,dv,.bool ex0]::Γ)) (hT:TabI w0) (hg:GoodT t) (ht:RTask w0 a b c d vs t) (ho:RS tInt w0 ov (sameL t.vars.length)) (hM1:1≤M) (hM2:M≤4096) :
  Calls Tryz.prog 52 #[.pointer (some pa),.agg #[a,b,c,d],ov,.int .i64 M] w fun e w'=>∃ cv ev gv sv ms ex,e=.returned (.tuple #[sysV (cnK t M t.vars.length).cur cv ev gv,errV (cnK t M t.vars.length).err])∧((cnK t M t.vars.length).err=0→0<t.vars.length→CnI t (cnK t M t.vars.length) t.vars.length) ∧
   Sat w0 w' (Box pa 92 [vv,sv,dv,.bool ex]::OS tStg 103 sv ms::RdH (StR ms (cnK t M t.vars.length).sts)::RdH (fun w=>RSys w cv ev gv (cnK t M t.vars.length).cur)::Γ):=by
 obtain⟨n,hn⟩:∃ n,n=t.vars.length:=⟨_,rfl⟩
 have hnv:=hg.vars
 rw [←hn] at ho hnv ⊢
 have hsl:(sameL n).length=n:=qbk n
 refine qaf (args:=[.pointer (some pa),.agg #[a,b,c,d],ov,.int .i64 M]) mixed Tryz.func52 rfl (by kernel_rfl) (Nat.le_of_ble_eq_true rfl) ?_
 repeat (first|refine qac ?_|(refine qaa ?_;clear hw;intro p w hw)|(refine qad ?_;clear hw;intro w hw)|(refine qab ?_;clear hw;intro s w hw))
 rename_i pt wt
 obtain⟨pr,hpr⟩:∃ q,q=p:=⟨p,rfl⟩
 subst hpr
 have hw:Sat w0 w (Box pr 96 [.int .i64 0,.int .i64 0,.slice none 0 0,.slice none 0 0,.slice none 0 0]::Box pt 26 [a,b,c,d]::Box pa 92 [vv,.slice none 0 0,dv,.bool ex0]::Γ):=hw
 have hw:Sat w0 w (Box pr 96 [.int .i64 0,.int .i64 0,.slice none 0 0,.slice none 0 0,.slice none 0 0]::Box pt 26 [a,b,c,d]::Box pa 92 [vv,.slice none 0 0,dv,.bool ex0]::Γ):=hw
 refine go_if (fun h1 => ?_) (fun h1 => ?_)
 ·have h0:n=0:=by omega
  have hK:cnK t M n=⟨sysE t [] (pErr t []),[],pErr t []⟩:=by rw [h0];rfl
  rw [hK]
  repeat (first|refine qac ?_|(refine qaa ?_;clear hw;intro p w hw)|(refine qad ?_;clear hw;intro w hw)|(refine qab ?_;clear hw;intro s w hw))
  refine qah rfl (qdN (L:=[]) (ht.at hw) RS.nil) ?_
  rintro _ w' ⟨cv,ev,gv,rfl,hk'⟩;replace hw:=hw.call hk';clear hk';refine⟨_,rfl,?_⟩
  simp only [List.cons_append,List.nil_append] at hw
  obtain⟨er,her⟩:∃ x,x=errV (pErr t []):=⟨_,rfl⟩
  obtain⟨S,hS⟩:∃ x,x=sysE t [] (pErr t []):=⟨_,rfl⟩
  rw [←her,←hS]
  rw [←hS] at hw
  have o1:=(rsO (s:=cv) hw).one
  have o2:=(rsO (s:=ev) hw).one
  have o3:=(rsO (s:=gv) hw).one
  unfold sysV
  repeat (first|refine qac ?_|(refine qaa ?_;clear hw;intro p w hw)|(refine qad ?_;clear hw;intro w hw)|(refine qab ?_;clear hw;intro s w hw))
  refine qao (n:=5) (p:=pr) (vs:=[.int .i64 S.st,.int .i64 S.ini,cv,ev,gv]) rfl rfl hw inferInstance rfl rfl (by simp only [List.all_cons,List.all_nil,o1,o2,o3];rfl) ?_
  clear hw;intro w hw
  repeat (first|refine qac ?_|(refine qaa ?_;clear hw;intro p w hw)|(refine qad ?_;clear hw;intro w hw)|(refine qab ?_;clear hw;intro s w hw))
  refine qar (p:=pr) (vs:=[.int .i64 S.st,.int .i64 S.ini,cv,ev,gv]) rfl rfl (v':=er) rfl rfl (fun j v hv=>qau (i:=3) hw rfl hv) ⟨cv,ev,gv,.slice none 0 0,[],ex0,rfl,fun _ h=>absurd h (by omega),?_⟩
  have h2:Sat w0 w (OS tInt 3 cv S.costs::OS tEdg 196 ev S.edges::OS tBool 4 gv S.goals::Box pa 92 [vv,.slice none 0 0,dv,.bool ex0]::Γ):=hw.selG
  have h3:=Sat.rd (Δ:=[_,_,_]) (φ:=fun w=>RSys w cv ev gv S) (fun _ _ h=>⟨h.rs 0 rfl,h.rs 1 rfl,h.rs 2 rfl⟩) h2
  have h4:Sat w0 w (RdH (StR [] [])::_):=Sat.rd0 (fun w=>StR.nil) h3
  have h5:=h4.nil (T:=tStg) (e:=103)
  exact h5.selG
 repeat (first|refine qac ?_|(refine qaa ?_;clear hw;intro p w hw)|(refine qad ?_;clear hw;intro w hw)|(refine qab ?_;clear hw;intro s w hw))
 have hn1:0<n:=by omega
 refine qah rfl (qj6 (n:=(M:Int)) (by omega) (by omega)) ?_
 rintro _ w' ⟨rfl,hk'⟩;replace hw:=hw.call0 hk';clear hk';refine⟨_,rfl,?_⟩
 repeat (first|refine qac ?_|(refine qaa ?_;clear hw;intro p w hw)|(refine qad ?_;clear hw;intro w hw)|(refine qab ?_;clear hw;intro s w hw))
 obtain⟨pc,hpc⟩:∃ q,q=p:=⟨p,rfl⟩
 subst hpc
 have hw0:Sat w0 w (Box pc 96 [.int .i64 (cnL t M 0).cur.st,.int .i64 (cnL t M 0).cur.ini,.slice none 0 0,.slice none 0 0,.slice none 0 0]::Box pa 92 [vv,.slice none 0 0,dv,.bool ex0]::OS tStg 103 (.slice none 0 0) []::RdH (StR [] (cnL t M 0).sts)::RdH (fun w=>RSys w (.slice none 0 0) (.slice none 0 0) (.slice none 0 0) (cnL t M 0).cur)::Box pr 96 [.int .i64 0,.int .i64 0,.slice none 0 0,.slice none 0 0,.slice none 0 0]::Box pt 26 [a,b,c,d]::Γ):=by
  have a1:Sat w0 w (RdH (fun w=>RSys w (.slice none 0 0) (.slice none 0 0) (.slice none 0 0) sysNo)::_):=Sat.rd0 (fun w=>⟨RS.nil,RS.nil,RS.nil⟩) hw
  have a2:Sat w0 w (RdH (StR [] [])::_):=Sat.rd0 (fun w=>StR.nil) a1
  have a3:=a2.nil (T:=tStg) (e:=103)
  have a4:Sat w0 w (Box pc 96 [.int .i64 0,.int .i64 0,.slice none 0 0,.slice none 0 0,.slice none 0 0]::Box pa 92 [vv,.slice none 0 0,dv,.bool ex0]::OS tStg 103 (.slice none 0 0) []::RdH (StR [] [])::RdH (fun w=>RSys w (.slice none 0 0) (.slice none 0 0) (.slice none 0 0) sysNo)::Box pr 96 [.int .i64 0,.int .i64 0,.slice none 0 0,.slice none 0 0,.slice none 0 0]::Box pt 26 [a,b,c,d]::Γ):=a3.selG
  exact a4
 refine qak [9,12,13,14,15,16,17,18,30,31,32,33,34,35,36,37,38,39,40,41,42,43,44,45,46,47,48,49,50,51,52,53,54,55,56,57,58,59,60,61,62,63,64,65,66,67,68,69,70,71,72,73,74,75,76,77,78,79,80,81,82,83,84,85,86,87,88,89,90,91,92,93,94,95,96,97,98,99,100,101,102,103,104,105,106,107,108,109,110,111,112,113,114,115,116,117,118,119,120,121,122,123,124,125,126,127,128,129,130,131,132,133,134,135,136,137,138,139,140,141,142,143,144,145,146,147,148,149,150,151,152,153] (G:=Nat) (fun k=>[(30,.int .i64 k)]) (fun k w=>k≤n∧(cnL t M k).err=0∧(0<k→CnI t (cnL t M k) k)∧∃ sv ms ex cc ce cg,Sat w0 w (Box pc 96 [.int .i64 (cnL t M k).cur.st,.int .i64 (cnL t M k).cur.ini,cc,ce,cg]::Box pa 92 [vv,sv,dv,.bool ex]::OS tStg 103 sv ms::RdH (StR ms (cnL t M k).sts)::RdH (fun w=>RSys w cc ce cg (cnL t M k).cur)::Box pr 96 [.int .i64 0,.int .i64 0,.slice none 0 0,.slice none 0 0,.slice none 0 0]::Box pt 26 [a,b,c,d]::Γ)) (fun k=>n-k) 0 (fun _=>rfl) ⟨rfl,trivial⟩ ⟨Nat.zero_le _,rfl,fun h=>absurd h (by omega),_,_,_,_,_,_,hw0⟩ ?_
 clear hw hw0
 rintro _ k w ⟨hkn,hX0,hXi,sv,ms,ex,cc,ce,cg,hw⟩
 obtain⟨X,hX⟩:∃ X,X=cnL t M k:=⟨_,rfl⟩
 rw [←hX] at hX0 hXi hw
 repeat (first|refine qac ?_|(refine qaa ?_;clear hw;intro p w hw)|(refine qad ?_;clear hw;intro w hw)|(refine qab ?_;clear hw;intro s w hw))
 refine go_if (fun h2 => ?_) (fun h2 => ?_)
 rotate_left
 ·have hk:k=n:=by omega
  have hKX:cnK t M n=X:=by rw [hX,hk];unfold cnL;rw [if_neg (by omega)]
  rw [hKX,hX0]
  have o1:=(hw.rdE 4 rfl).ones
  repeat (first|refine qac ?_|(refine qaa ?_;clear hw;intro p w hw)|(refine qad ?_;clear hw;intro w hw)|(refine qab ?_;clear hw;intro s w hw))
  exact qar (p:=pr) (vs:=[.int .i64 X.cur.st,.int .i64 X.cur.ini,cc,ce,cg]) rfl rfl (v':=errV 0) (by rw [qas rfl];rfl) rfl (fun j v hv=>qau (i:=5) hw rfl hv) ⟨cc,ce,cg,sv,ms,ex,rfl,fun _ _=>by rw [←hk];exact hXi (by omega),hw.selG⟩
 have hk2:k<n:=by omega
 have hfinG:∀ LL ec,ec≠0→cnL t M (k+1)=⟨sysNo,LL,ec⟩→cnK t M n=⟨sysNo,LL,ec⟩:=fun LL ec h1 h2=>by
  rw [←h2,←qhF (Nat.succ_pos k) (by rw [h2];exact h1) n (by omega)]
  unfold cnL;rw [if_neg (by omega)]
 have hgk:=qmk hk2
 repeat (first|refine qac ?_|(refine qaa ?_;clear hw;intro p w hw)|(refine qad ?_;clear hw;intro w hw)|(refine qab ?_;clear hw;intro s w hw))
 rw [hgk]
 repeat (first|refine qac ?_|(refine qaa ?_;clear hw;intro p w hw)|(refine qad ?_;clear hw;intro w hw)|(refine qab ?_;clear hw;intro s w hw))
 refine qah rfl (qlT (v:=(k:Int)) (ht.at hw)) ?_
 rintro _ w' ⟨av,ae,ag,rfl,hk'⟩;replace hw:=hw.call hk';clear hk';refine⟨_,rfl,?_⟩
 by_cases he:pErr t [(k:Int)]=0
 rotate_left
 ·have hL1:cnL t M (k+1)=⟨sysNo,X.sts,pErr t [(k:Int)]⟩:=by
   rcases Nat.eq_zero_or_pos k with h0|h0
   ·subst h0
    rw [qhE,hX]
    unfold cnFst
    rw [if_pos (by simpa using he)]
    rfl
   ·rw [qfT h0,←hX]
    unfold cnNxt
    rw [if_neg (by rw [hX0];exact fun h=>h rfl),if_pos he]
  have hfin:cnK t M n=⟨sysNo,X.sts,pErr t [(k:Int)]⟩:=by
   rw [←hL1,←qhF (Nat.succ_pos k) (by rw [hL1];exact he) n (by omega)]
   unfold cnL;rw [if_neg (by omega)]
  have hA:sysE t [(k:Int)] (pErr t [(k:Int)])=sysNo:=by unfold sysE;rw [if_neg he]
  rw [hA] at hw ⊢
  obtain⟨ec,hecd⟩:∃ e,e=pErr t [(k:Int)]:=⟨_,rfl⟩
  obtain⟨LL,hLL⟩:∃ L,L=X.sts:=⟨_,rfl⟩
  rw [←hecd] at he hfin ⊢
  rw [←hLL] at hw hfin
  have hec:=he
  rw [qan he]
  simp only [List.cons_append,List.nil_append] at hw
  have o1:=(rsO (s:=av) hw).one
  have o2:=(rsO (s:=ae) hw).one
  have o3:=(rsO (s:=ag) hw).one
  unfold sysV
  repeat (first|refine qac ?_|(refine qaa ?_;clear hw;intro p w hw)|(refine qad ?_;clear hw;intro w hw)|(refine qab ?_;clear hw;intro s w hw))
  refine qao (n:=5) (p:=p) (vs:=[.int .i64 sysNo.st,.int .i64 sysNo.ini,av,ae,ag]) rfl rfl hw inferInstance rfl rfl (by simp only [List.all_cons,List.all_nil,o1,o2,o3];rfl) ?_
  clear hw;intro w hw
  repeat (first|refine qac ?_|(refine qaa ?_;clear hw;intro p w hw)|(refine qad ?_;clear hw;intro w hw)|(refine qab ?_;clear hw;intro s w hw))
  rw [hfin]
  have hw:Sat w0 w (Box pr 96 [.int .i64 0,.int .i64 0,.slice none 0 0,.slice none 0 0,.slice none 0 0]::Box pa 92 [vv,sv,dv,.bool ex]::OS tStg 103 sv ms::RdH (StR ms LL)::Γ):=hw.selG
  refine qap (parts:=[]) (vs:=[]) rfl rfl rfl ?_
  repeat (first|refine qac ?_|(refine qaa ?_;clear hw;intro p w hw)|(refine qad ?_;clear hw;intro w hw)|(refine qab ?_;clear hw;intro s w hw))
  refine qar (p:=pr) (vs:=[.int .i64 0,.int .i64 0,.slice none 0 0,.slice none 0 0,.slice none 0 0]) rfl rfl (v':=errV ec) (by rw [qan hec];rfl) rfl (fun j v hv=>qau (i:=0) hw rfl hv) ⟨.slice none 0 0,.slice none 0 0,.slice none 0 0,sv,ms,ex,rfl,fun h=>absurd h hec,?_⟩
  have h9:Sat w0 _ (RdH (fun w=>RSys w (.slice none 0 0) (.slice none 0 0) (.slice none 0 0) sysNo)::_):=Sat.rd0 (fun w=>⟨RS.nil,RS.nil,RS.nil⟩) hw
  exact h9.selG
 rw [qas he]
 have hA:sysE t [(k:Int)] (pErr t [(k:Int)])=sysOk t [(k:Int)]:=by rw [he];rfl
 have hAs:1≤(sysOk t [(k:Int)]).st∧(sysOk t [(k:Int)]).st≤4096:=by
  rw [qkV hg (by omega)];have:=hg.dom k (by omega);omega
 have hAd:=qkV (v:=k) hg (by omega)
 rw [hA] at hw ⊢
 obtain⟨A,hAe⟩:∃ A,A=sysOk t [(k:Int)]:=⟨_,rfl⟩
 rw [←hAe] at hAs hAd hw ⊢
 simp only [List.cons_append,List.nil_append] at hw
 have o1:=(rsO (s:=av) hw).one
 have o2:=(rsO (s:=ae) hw).one
 have o3:=(rsO (s:=ag) hw).one
 unfold sysV
 repeat (first|refine qac ?_|(refine qaa ?_;clear hw;intro p w hw)|(refine qad ?_;clear hw;intro w hw)|(refine qab ?_;clear hw;intro s w hw))
 refine qao (n:=5) (p:=p) (vs:=[.int .i64 A.st,.int .i64 A.ini,av,ae,ag]) rfl rfl hw inferInstance rfl rfl (by simp only [List.all_cons,List.all_nil,o1,o2,o3];rfl) ?_
 clear hw;intro w hw
 obtain⟨pt1,hpt1⟩:∃ q,q=p:=⟨p,rfl⟩
 subst hpt1
 repeat (first|refine qac ?_|(refine qaa ?_;clear hw;intro p w hw)|(refine qad ?_;clear hw;intro w hw)|(refine qab ?_;clear hw;intro s w hw))
 obtain⟨pg,hpg⟩:∃ q,q=p:=⟨p,rfl⟩
 subst hpg
 have hw:Sat w0 w (Box pg 103 [.int .i64 k,.slice none 0 0,.slice none 0 0,.int .i64 0]::Box pt1 96 [.int .i64 A.st,.int .i64 A.ini,av,ae,ag]::OS tInt 3 av A.costs::OS tEdg 196 ae A.edges::OS tBool 4 ag A.goals::Box pc 96 [.int .i64 X.cur.st,.int .i64 X.cur.ini,cc,ce,cg]::Box pa 92 [vv,sv,dv,.bool ex]::OS tStg 103 sv ms::RdH (StR ms X.sts)::RdH (fun w=>RSys w cc ce cg X.cur)::Box pr 96 [.int .i64 0,.int .i64 0,.slice none 0 0,.slice none 0 0,.slice none 0 0]::Box pt 26 [a,b,c,d]::Γ):=hw
 have hw:Sat w0 w (OS tInt 3 av A.costs::OS tEdg 196 ae A.edges::OS tBool 4 ag A.goals::Box pa 92 [vv,sv,dv,.bool ex]::Box pg 103 [.int .i64 k,.slice none 0 0,.slice none 0 0,.int .i64 0]::Box pt1 96 [.int .i64 A.st,.int .i64 A.ini,av,ae,ag]::Box pc 96 [.int .i64 X.cur.st,.int .i64 X.cur.ini,cc,ce,cg]::OS tStg 103 sv ms::RdH (StR ms X.sts)::RdH (fun w=>RSys w cc ce cg X.cur)::Box pr 96 [.int .i64 0,.int .i64 0,.slice none 0 0,.slice none 0 0,.slice none 0 0]::Box pt 26 [a,b,c,d]::Γ):=hw.selG
 have hw:=Sat.rd (Δ:=[_,_,_]) (φ:=fun w=>RSys w av ae ag A) (fun _ _ h=>⟨h.rs 0 rfl,h.rs 1 rfl,h.rs 2 rfl⟩) hw
 have oA:=(hw.rdE 0 rfl).ones
 refine go_if (fun h3 => ?_) (fun h3 => ?_)
 ·have hk0:k=0:=by omega
  have hXe:X=⟨sysNo,[],0⟩:=by rw [hX,hk0];rfl
  repeat (first|refine qac ?_|(refine qaa ?_;clear hw;intro p w hw)|(refine qad ?_;clear hw;intro w hw)|(refine qab ?_;clear hw;intro s w hw))
  have hw2:Sat w0 w (Box pa 92 [vv,sv,dv,.bool ex]::RdH (fun w=>RSys w av ae ag A)::Box pg 103 [.int .i64 k,.slice none 0 0,.slice none 0 0,.int .i64 0]::Box pt1 96 [.int .i64 A.st,.int .i64 A.ini,av,ae,ag]::Box pc 96 [.int .i64 X.cur.st,.int .i64 X.cur.ini,cc,ce,cg]::OS tStg 103 sv ms::RdH (StR ms X.sts)::RdH (fun w=>RSys w cc ce cg X.cur)::Box pr 96 [.int .i64 0,.int .i64 0,.slice none 0 0,.slice none 0 0,.slice none 0 0]::Box pt 26 [a,b,c,d]::Γ):=hw.selG
  refine qah rfl (qe0 (S:=A) (most:=(M:Int)) hw2 hT ⟨by omega,hAs.2⟩) ?_
  clear hw hw2
  rintro _ w ⟨yv,ye,yg,qv,ex,rfl,hw⟩;refine⟨_,rfl,?_⟩
  obtain⟨er,her⟩:∃ x,x=smlErr A (M:Int):=⟨_,rfl⟩
  obtain⟨S,hS⟩:∃ x,x=smlS A (M:Int):=⟨_,rfl⟩
  obtain⟨C,hC⟩:∃ x,x=smlC A (M:Int):=⟨_,rfl⟩
  rw [←her]
  rw [←hS,←hC] at hw
  rw [←hS]
  have oS:=(hw.rdE 2 rfl).ones
  unfold sysV
  by_cases he1:er=0
  rotate_left
  ·have hfin:cnK t M n=⟨sysNo,X.sts,er⟩:=by
    have hL1:cnL t M (k+1)=⟨sysNo,X.sts,er⟩:=by
     subst hk0
     rw [qhE,hXe]
     unfold cnFst
     have e1:pErr t [(0:Int)]=0:=by simpa using he
     have e2:sysOk t [(0:Int)]=A:=by rw [hAe];rfl
     rw [if_neg (fun h=>h e1),e2,←her,if_pos he1]
    rw [←hL1,←qhF (Nat.succ_pos k) (by rw [hL1];exact he1) n (by omega)]
    unfold cnL;rw [if_neg (by omega)]
   have hec:er≠0:=he1
   obtain⟨ec,hecd⟩:∃ e,e=er:=⟨_,rfl⟩
   obtain⟨LL,hLL⟩:∃ L,L=X.sts:=⟨_,rfl⟩
   rw [←hecd] at hfin hec ⊢
   rw [←hLL] at hw hfin
   rw [qan hec]
   repeat (first|refine qac ?_|(refine qaa ?_;clear hw;intro p w hw)|(refine qad ?_;clear hw;intro w hw)|(refine qab ?_;clear hw;intro s w hw))
   rw [hfin]
   have hw:Sat w0 w (Box pr 96 [.int .i64 0,.int .i64 0,.slice none 0 0,.slice none 0 0,.slice none 0 0]::Box pa 92 [vv,sv,dv,.bool ex]::OS tStg 103 sv ms::RdH (StR ms LL)::Γ):=hw.selG
   refine qap (parts:=[]) (vs:=[]) rfl rfl rfl ?_
   repeat (first|refine qac ?_|(refine qaa ?_;clear hw;intro p w hw)|(refine qad ?_;clear hw;intro w hw)|(refine qab ?_;clear hw;intro s w hw))
   refine qar (p:=pr) (vs:=[.int .i64 0,.int .i64 0,.slice none 0 0,.slice none 0 0,.slice none 0 0]) rfl rfl (v':=errV ec) (by rw [qan hec];rfl) rfl (fun j v hv=>qau (i:=0) hw rfl hv) ⟨.slice none 0 0,.slice none 0 0,.slice none 0 0,sv,ms,ex,rfl,fun h=>absurd h hec,?_⟩
   have h9:Sat w0 _ (RdH (fun w=>RSys w (.slice none 0 0) (.slice none 0 0) (.slice none 0 0) sysNo)::_):=Sat.rd0 (fun w=>⟨RS.nil,RS.nil,RS.nil⟩) hw
   exact h9.selG
  rw [qas he1]
  repeat (first|refine qac ?_|(refine qaa ?_;clear hw;intro p w hw)|(refine qad ?_;clear hw;intro w hw)|(refine qab ?_;clear hw;intro s w hw))
  simp only [List.set_cons_succ,List.set_cons_zero] at hw
  refine qax [.op 0,.op 1,.op 2,.op 3,.op 4,.op 5,.op 6,.chk 4,.op 7,.op 8,.op 9,.op 10] hw (by kernel_rfl) ?_;clear hw;intro w hw
  repeat (first|refine qac ?_|(refine qaa ?_;clear hw;intro p w hw)|(refine qad ?_;clear hw;intro w hw)|(refine qab ?_;clear hw;intro s w hw))
  refine qam tStg (x1:=⟨(k:Int),qv,.slice none 0 0,S.st⟩) rfl rfl rfl (Nat.le_of_ble_eq_true rfl) (Nat.zero_lt_succ _) hw ?_
  clear hw;intro s2 w hw
  repeat (first|refine qac ?_|(refine qaa ?_;clear hw;intro p w hw)|(refine qad ?_;clear hw;intro w hw)|(refine qab ?_;clear hw;intro s w hw))
  have hml:=(hw.rdE 8 rfl).len
  rw [hXe] at hml
  have hml:ms.length=0:=hml
  have oq:=(rsO (s:=qv) hw).one
  have oq2:=oq
  refine qbe (T:=tStg) (sz:=4) (by_:=64) (e:=103) (zs:=[.int .i64 0,.slice none 0 0,.slice none 0 0,.int .i64 0]) (s:=sv) (s2:=s2) (xs:=ms) (ys:=[⟨(k:Int),qv,.slice none 0 0,S.st⟩]) inferInstance rfl rfl (rsO hw) rfl rfl (fun x hx v hv=>by rw [List.mem_singleton.1 hx] at hv;simp only [tStg,List.mem_cons,List.not_mem_nil,or_false] at hv;rcases hv with rfl|rfl|rfl|rfl <;> first|rfl|exact oq|exact oq2) (by simp only [List.length_cons,List.length_nil];omega) (by unfold big;simp only [List.length_cons,List.length_nil];omega) hw ?_
  clear hw;intro s3 w hw
  repeat (first|refine qac ?_|(refine qaa ?_;clear hw;intro p w hw)|(refine qad ?_;clear hw;intro w hw)|(refine qab ?_;clear hw;intro s w hw))
  simp only [List.set_cons_succ,List.set_cons_zero] at hw
  have hI0:=sml_i hAs.1 (her.symm.trans he1)
  rw [←hS,←hC] at hI0
  have hN:cnL t M (k+1)=⟨S,X.sts++[⟨(k:Int),C,[],S.st⟩],0⟩:=by
   have e0:(k:Int)=0:=by omega
   have e1:pErr t [(0:Int)]=0:=by have h:=he;rw [e0] at h;exact h
   have e2:sysOk t [(0:Int)]=A:=by rw [hAe,e0]
   rw [hXe,hk0,qhE]
   unfold cnFst
   rw [if_neg (fun h=>h e1),e2,←her,if_neg (fun h=>h he1),←hS,←hC]
   rfl
  refine⟨k+1,⟨rfl,trivial⟩,agr,⟨by omega,by rw [hN],fun _ => ?_,s3,ms++[⟨(k:Int),qv,.slice none 0 0,S.st⟩],ex,yv,ye,yg,?_⟩,by omega⟩
  ·rw [hN]
   exact⟨hI0.st1,Int.le_trans hI0.st2 hAs.2,by rw [hXe];exact Ch.one ⟨(k:Int),C,[],S.st⟩ (by show (k:Int)=0;omega) (by show (C.length:Int)=_;rw [hI0.len,hAd,hk0]) hI0.rng (by omega),by rw [hXe,hk0];rfl⟩
  ·rw [hN]
   have hw:Sat w0 w (OS tInt 3 qv C::RdH (StR ms X.sts)::Box pc 96 [.int .i64 S.st,.int .i64 S.ini,yv,ye,yg]::Box pa 92 [vv,s3,dv,.bool ex]::OS tStg 103 s3 (ms++[⟨(k:Int),qv,.slice none 0 0,S.st⟩])::RdH (fun w=>RSys w yv ye yg S)::Box pr 96 [.int .i64 0,.int .i64 0,.slice none 0 0,.slice none 0 0,.slice none 0 0]::Box pt 26 [a,b,c,d]::Γ):=hw.selG
   have h2:Sat w0 w (RdH (StR (ms++[⟨(k:Int),qv,.slice none 0 0,S.st⟩]) (X.sts++[⟨(k:Int),C,[],S.st⟩]))::_):=Sat.rd (Δ:=[_,_]) (fun _ _ h=>(h.rdE 1 rfl).snoc rfl rfl (h.rs 0 rfl) RS.nil) hw
   exact h2.selG
 have hkp:0<k:=by omega
 obtain⟨x1,x2,x3,x4⟩:=hXi hkp
 repeat (first|refine qac ?_|(refine qaa ?_;clear hw;intro p w hw)|(refine qad ?_;clear hw;intro w hw)|(refine qab ?_;clear hw;intro s w hw))
 have hm1:0≤X.cur.st*A.st:=Int.mul_nonneg (by omega) (by omega)
 have hm2:X.cur.st*A.st≤4096*4096:=Int.mul_le_mul x2 hAs.2 (by omega) (by omega)
 have hr0 : -9223372036854775808≤X.cur.st*A.st:=by omega
 have hr1:X.cur.st*A.st≤9223372036854775807:=by omega
 refine qax [.op 0,.op 1,.op 2,.op 3,.op 4,.op 5] hw (by kernel_rfl) ?_;clear hw;intro w hw
 repeat (first|refine qcK ?_|refine qdv ?_|refine qg2 ?_|refine qcL ?_|refine qdg ?_|refine qcI ?_|refine qbi ?_)
 refine qbU ?_
 have hw:Sat w0 w (Box pa 92 [vv,sv,dv,.bool ex]::RdH (fun w=>RSys w cc ce cg X.cur)::RdH (fun w=>RSys w av ae ag A)::Box pg 103 [.int .i64 k,.slice none 0 0,.slice none 0 0,.int .i64 0]::Box pt1 96 [.int .i64 A.st,.int .i64 A.ini,av,ae,ag]::Box pc 96 [.int .i64 X.cur.st,.int .i64 X.cur.ini,cc,ce,cg]::OS tStg 103 sv ms::RdH (StR ms X.sts)::Box pr 96 [.int .i64 0,.int .i64 0,.slice none 0 0,.slice none 0 0,.slice none 0 0]::Box pt 26 [a,b,c,d]::Γ):=hw.selG
 refine qdh [17,18,79,80,81,82,83,84,85,86,87,88,89,90,91,92,93,94,95,96,97,98,99,100,101,102,103] (G:=Int × Int) (fun x=>[(17,.int .i64 x.1),(18,.int .i64 x.2)]) (fun x w=>x=limL (M:Int) X.cur.st A.st∧Sat w0 w (Box pa 92 [vv,sv,dv,.bool ex]::RdH (fun w=>RSys w cc ce cg X.cur)::RdH (fun w=>RSys w av ae ag A)::Box pg 103 [.int .i64 k,.slice none 0 0,.slice none 0 0,.int .i64 0]::Box pt1 96 [.int .i64 A.st,.int .i64 A.ini,av,ae,ag]::Box pc 96 [.int .i64 X.cur.st,.int .i64 X.cur.ini,cc,ce,cg]::OS tStg 103 sv ms::RdH (StR ms X.sts)::Box pr 96 [.int .i64 0,.int .i64 0,.slice none 0 0,.slice none 0 0,.slice none 0 0]::Box pt 26 [a,b,c,d]::Γ)) (fun _=>rfl) ?_ ?_
 ·repeat (first|refine qac ?_|(refine qaa ?_;clear hw;intro p w hw)|(refine qad ?_;clear hw;intro w hw)|(refine qab ?_;clear hw;intro s w hw))
  refine go_if (fun g1 => ?_) (fun g1 => ?_)
  rotate_left
  ·repeat (first|refine qac ?_|(refine qaa ?_;clear hw;intro p w hw)|(refine qad ?_;clear hw;intro w hw)|(refine qab ?_;clear hw;intro s w hw))
   exact⟨(X.cur.st,A.st),⟨rfl,rfl,trivial⟩,agr,by unfold limL;rw [if_neg (by omega)],hw⟩
  repeat (first|refine qac ?_|(refine qaa ?_;clear hw;intro p w hw)|(refine qad ?_;clear hw;intro w hw)|(refine qab ?_;clear hw;intro s w hw))
  refine go_if (fun g2 => ?_) (fun g2 => ?_)
  ·repeat (first|refine qac ?_|(refine qaa ?_;clear hw;intro p w hw)|(refine qad ?_;clear hw;intro w hw)|(refine qab ?_;clear hw;intro s w hw))
   exact⟨(X.cur.st,(M:Int).tdiv X.cur.st),⟨rfl,rfl,trivial⟩,agr,by unfold limL;rw [if_pos (by omega),if_pos (by omega)],hw⟩
  repeat (first|refine qac ?_|(refine qaa ?_;clear hw;intro p w hw)|(refine qad ?_;clear hw;intro w hw)|(refine qab ?_;clear hw;intro s w hw))
  refine go_if (fun g3 => ?_) (fun g3 => ?_)
  ·repeat (first|refine qac ?_|(refine qaa ?_;clear hw;intro p w hw)|(refine qad ?_;clear hw;intro w hw)|(refine qab ?_;clear hw;intro s w hw))
   exact⟨((M:Int).tdiv A.st,A.st),⟨rfl,rfl,trivial⟩,agr,by unfold limL;rw [if_pos (by omega),if_neg (by omega),if_pos (by omega)],hw⟩
  repeat (first|refine qac ?_|(refine qaa ?_;clear hw;intro p w hw)|(refine qad ?_;clear hw;intro w hw)|(refine qab ?_;clear hw;intro s w hw))
  exact⟨(rootF (M:Int),rootF (M:Int)),⟨rfl,rfl,trivial⟩,agr,by unfold limL;rw [if_pos (by omega),if_neg (by omega),if_neg (by omega)],hw⟩
 clear hw
 rintro _ lr w ⟨hlr,hw⟩
 have hN:cnL t M (k+1)=if smlErr X.cur lr.1≠0 then ⟨sysNo,X.sts,smlErr X.cur lr.1⟩ else if smlErr A lr.2≠0 then ⟨sysNo,X.sts,smlErr A lr.2⟩ else if prdErr (smlS X.cur lr.1) (smlS A lr.2)≠0 then ⟨sysNo,X.sts++[⟨(k:Int),smlC A lr.2,smlC X.cur lr.1,(smlS A lr.2).st⟩],prdErr (smlS X.cur lr.1) (smlS A lr.2)⟩ else ⟨prdS (smlS X.cur lr.1) (smlS A lr.2),X.sts++[⟨(k:Int),smlC A lr.2,smlC X.cur lr.1,(smlS A lr.2).st⟩],0⟩:=by
  rw [qfT hkp,←hX,hlr,hAe]
  unfold cnNxt
  rw [if_neg (fun h=>h hX0),if_neg (fun h=>h he)]
 have oX:=(hw.rdE 1 rfl).ones
 repeat (first|refine qac ?_|(refine qaa ?_;clear hw;intro p w hw)|(refine qad ?_;clear hw;intro w hw)|(refine qab ?_;clear hw;intro s w hw))
 refine qah rfl (qe0 (S:=X.cur) (most:=lr.1) hw hT ⟨by omega,x2⟩) ?_
 clear hw
 rintro _ w ⟨yv,ye,yg,qv,ex,rfl,hw⟩;refine⟨_,rfl,?_⟩
 obtain⟨er,her⟩:∃ x,x=smlErr X.cur lr.1:=⟨_,rfl⟩
 obtain⟨S,hS⟩:∃ x,x=smlS X.cur lr.1:=⟨_,rfl⟩
 obtain⟨C,hC⟩:∃ x,x=smlC X.cur lr.1:=⟨_,rfl⟩
 rw [←her] at hN ⊢
 rw [←hS,←hC] at hw hN
 rw [←hS]
 have oS:=(hw.rdE 2 rfl).ones
 unfold sysV
 by_cases he1:er=0
 rotate_left
 ·rw [if_pos he1] at hN
  have hfin:=hfinG _ _ he1 hN
  obtain⟨ec,hecd⟩:∃ e,e=er:=⟨_,rfl⟩
  obtain⟨LL,hLL⟩:∃ L,L=X.sts:=⟨_,rfl⟩
  have hec:ec≠0:=by rw [hecd];exact he1
  rw [←hecd] at hfin ⊢
  rw [←hLL] at hw hfin
  rw [qan hec]
  repeat (first|refine qac ?_|(refine qaa ?_;clear hw;intro p w hw)|(refine qad ?_;clear hw;intro w hw)|(refine qab ?_;clear hw;intro s w hw))
  rw [hfin]
  have hw:Sat w0 w (Box pr 96 [.int .i64 0,.int .i64 0,.slice none 0 0,.slice none 0 0,.slice none 0 0]::Box pa 92 [vv,sv,dv,.bool ex]::OS tStg 103 sv ms::RdH (StR ms LL)::Γ):=hw.selG
  refine qap (parts:=[]) (vs:=[]) rfl rfl rfl ?_
  repeat (first|refine qac ?_|(refine qaa ?_;clear hw;intro p w hw)|(refine qad ?_;clear hw;intro w hw)|(refine qab ?_;clear hw;intro s w hw))
  refine qar (p:=pr) (vs:=[.int .i64 0,.int .i64 0,.slice none 0 0,.slice none 0 0,.slice none 0 0]) rfl rfl (v':=errV ec) (by rw [qan hec];rfl) rfl (fun j v hv=>qau (i:=0) hw rfl hv) ⟨.slice none 0 0,.slice none 0 0,.slice none 0 0,sv,ms,ex,rfl,fun h=>absurd h hec,?_⟩
  have h9:Sat w0 _ (RdH (fun w=>RSys w (.slice none 0 0) (.slice none 0 0) (.slice none 0 0) sysNo)::_):=Sat.rd0 (fun w=>⟨RS.nil,RS.nil,RS.nil⟩) hw
  exact h9.selG
 rw [if_neg (fun h=>h he1)] at hN
 have hI1:=sml_i x1 (her.symm.trans he1)
 rw [←hS,←hC] at hI1
 rw [qas he1]
 repeat (first|refine qac ?_|(refine qaa ?_;clear hw;intro p w hw)|(refine qad ?_;clear hw;intro w hw)|(refine qab ?_;clear hw;intro s w hw))
 simp only [List.set_cons_succ,List.set_cons_zero] at hw
 have hw:Sat w0 w (Box pa 92 [vv,sv,dv,.bool ex]::RdH (fun w=>RSys w av ae ag A)::OS tInt 3 qv C::RdH (fun w=>RSys w yv ye yg S)::Box pg 103 [.int .i64 k,.slice none 0 0,qv,.int .i64 0]::Box pt1 96 [.int .i64 A.st,.int .i64 A.ini,av,ae,ag]::Box pc 96 [.int .i64 S.st,.int .i64 S.ini,yv,ye,yg]::OS tStg 103 sv ms::RdH (StR ms X.sts)::Box pr 96 [.int .i64 0,.int .i64 0,.slice none 0 0,.slice none 0 0,.slice none 0 0]::Box pt 26 [a,b,c,d]::Γ):=hw.selG
 refine qah rfl (qe0 (S:=A) (most:=lr.2) hw hT ⟨by omega,hAs.2⟩) ?_
 clear hw
 rintro _ w ⟨zv,ze,zg,rv,ex,rfl,hw⟩;refine⟨_,rfl,?_⟩
 obtain⟨er2,her2⟩:∃ x,x=smlErr A lr.2:=⟨_,rfl⟩
 obtain⟨S2,hS2⟩:∃ x,x=smlS A lr.2:=⟨_,rfl⟩
 obtain⟨C2,hC2⟩:∃ x,x=smlC A lr.2:=⟨_,rfl⟩
 rw [←her2] at hN ⊢
 rw [←hS2,←hC2] at hw hN
 rw [←hS2]
 have oS2:=(hw.rdE 2 rfl).ones
 unfold sysV
 by_cases he2:er2=0
 rotate_left
 ·rw [if_pos he2] at hN
  have hfin:=hfinG _ _ he2 hN
  obtain⟨ec,hecd⟩:∃ e,e=er2:=⟨_,rfl⟩
  obtain⟨LL,hLL⟩:∃ L,L=X.sts:=⟨_,rfl⟩
  have hec:ec≠0:=by rw [hecd];exact he2
  rw [←hecd] at hfin ⊢
  rw [←hLL] at hw hfin
  rw [qan hec]
  repeat (first|refine qac ?_|(refine qaa ?_;clear hw;intro p w hw)|(refine qad ?_;clear hw;intro w hw)|(refine qab ?_;clear hw;intro s w hw))
  rw [hfin]
  have hw:Sat w0 w (Box pr 96 [.int .i64 0,.int .i64 0,.slice none 0 0,.slice none 0 0,.slice none 0 0]::Box pa 92 [vv,sv,dv,.bool ex]::OS tStg 103 sv ms::RdH (StR ms LL)::Γ):=hw.selG
  refine qap (parts:=[]) (vs:=[]) rfl rfl rfl ?_
  repeat (first|refine qac ?_|(refine qaa ?_;clear hw;intro p w hw)|(refine qad ?_;clear hw;intro w hw)|(refine qab ?_;clear hw;intro s w hw))
  refine qar (p:=pr) (vs:=[.int .i64 0,.int .i64 0,.slice none 0 0,.slice none 0 0,.slice none 0 0]) rfl rfl (v':=errV ec) (by rw [qan hec];rfl) rfl (fun j v hv=>qau (i:=0) hw rfl hv) ⟨.slice none 0 0,.slice none 0 0,.slice none 0 0,sv,ms,ex,rfl,fun h=>absurd h hec,?_⟩
  have h9:Sat w0 _ (RdH (fun w=>RSys w (.slice none 0 0) (.slice none 0 0) (.slice none 0 0) sysNo)::_):=Sat.rd0 (fun w=>⟨RS.nil,RS.nil,RS.nil⟩) hw
  exact h9.selG
 rw [if_neg (fun h=>h he2)] at hN
 have hI2:=sml_i hAs.1 (her2.symm.trans he2)
 rw [←hS2,←hC2] at hI2
 rw [qas he2]
 repeat (first|refine qac ?_|(refine qaa ?_;clear hw;intro p w hw)|(refine qad ?_;clear hw;intro w hw)|(refine qab ?_;clear hw;intro s w hw))
 simp only [List.set_cons_succ,List.set_cons_zero] at hw
 refine qax [.op 0,.op 1,.op 2,.op 3,.op 4,.op 5,.op 6,.chk 4,.op 7,.op 8,.op 9,.op 10] hw (by kernel_rfl) ?_;clear hw;intro w hw
 repeat (first|refine qac ?_|(refine qaa ?_;clear hw;intro p w hw)|(refine qad ?_;clear hw;intro w hw)|(refine qab ?_;clear hw;intro s w hw))
 refine qam tStg (x1:=⟨(k:Int),rv,qv,S2.st⟩) rfl rfl rfl (Nat.le_of_ble_eq_true rfl) (Nat.zero_lt_succ _) hw ?_
 clear hw;intro s2 w hw
 repeat (first|refine qac ?_|(refine qaa ?_;clear hw;intro p w hw)|(refine qad ?_;clear hw;intro w hw)|(refine qab ?_;clear hw;intro s w hw))
 have hml:ms.length=X.sts.length:=(show StR ms X.sts w from hw.rdE 10 rfl).len
 have oq:=(rsO (s:=qv) hw).one
 have oq2:=(rsO (s:=rv) hw).one
 refine qbe (T:=tStg) (sz:=4) (by_:=64) (e:=103) (zs:=[.int .i64 0,.slice none 0 0,.slice none 0 0,.int .i64 0]) (s:=sv) (s2:=s2) (xs:=ms) (ys:=[⟨(k:Int),rv,qv,S2.st⟩]) inferInstance rfl rfl (rsO hw) rfl rfl (fun x hx v hv=>by rw [List.mem_singleton.1 hx] at hv;simp only [tStg,List.mem_cons,List.not_mem_nil,or_false] at hv;rcases hv with rfl|rfl|rfl|rfl <;> first|rfl|exact oq|exact oq2) (by simp only [List.length_cons,List.length_nil];omega) (by unfold big;simp only [List.length_cons,List.length_nil];omega) hw ?_
 clear hw;intro sv w hw
 repeat (first|refine qac ?_|(refine qaa ?_;clear hw;intro p w hw)|(refine qad ?_;clear hw;intro w hw)|(refine qab ?_;clear hw;intro s w hw))
 simp only [List.set_cons_succ,List.set_cons_zero] at hw
 have hw:Sat w0 w (OS tInt 3 rv C2::OS tInt 3 qv C::RdH (StR ms X.sts)::RdH (fun w=>RSys w yv ye yg S)::RdH (fun w=>RSys w zv ze zg S2)::Box pc 96 [.int .i64 S.st,.int .i64 S.ini,yv,ye,yg]::Box pa 92 [vv,sv,dv,.bool ex]::OS tStg 103 sv (ms++[⟨(k:Int),rv,qv,S2.st⟩])::Box pr 96 [.int .i64 0,.int .i64 0,.slice none 0 0,.slice none 0 0,.slice none 0 0]::Box pt 26 [a,b,c,d]::Γ):=hw.selG
 have hw:=Sat.rd (Δ:=[_,_,_]) (φ:=StR (ms++[⟨(k:Int),rv,qv,S2.st⟩]) (X.sts++[⟨(k:Int),C2,C,S2.st⟩])) (fun _ _ h=>(h.rdE 2 rfl).snoc rfl rfl (h.rs 0 rfl) (h.rs 1 rfl)) hw
 obtain⟨ms,hms⟩:∃ l,l=ms++[⟨(k:Int),rv,qv,S2.st⟩]:=⟨_,rfl⟩
 obtain⟨LL,hLL⟩:∃ L,L=X.sts++[⟨(k:Int),C2,C,S2.st⟩]:=⟨_,rfl⟩
 rw [←hms,←hLL] at hw
 rw [←hLL] at hN
 refine qah rfl (ql2 (A:=S) (B:=S2) (hw.rdE 1 rfl) (hw.rdE 2 rfl)) ?_
 rintro _ w' ⟨uv,ue,ug,rfl,hk'⟩;replace hw:=hw.call hk';clear hk';refine⟨_,rfl,?_⟩
 simp only [List.cons_append,List.nil_append] at hw
 obtain⟨er3,her3⟩:∃ x,x=prdErr S S2:=⟨_,rfl⟩
 obtain⟨S3,hS3⟩:∃ x,x=prdS S S2:=⟨_,rfl⟩
 rw [←her3,←hS3] at hN ⊢
 rw [←hS3] at hw
 have o1:=(rsO (s:=uv) hw).one
 have o2:=(rsO (s:=ue) hw).one
 have o3:=(rsO (s:=ug) hw).one
 unfold sysV
 by_cases he3:er3=0
 rotate_left
 ·rw [if_pos he3] at hN
  have hfin:=hfinG _ _ he3 hN
  obtain⟨ec,hecd⟩:∃ e,e=er3:=⟨_,rfl⟩
  have hec:ec≠0:=by rw [hecd];exact he3
  rw [←hecd] at hfin ⊢
  rw [qan hec]
  repeat (first|refine qac ?_|(refine qaa ?_;clear hw;intro p w hw)|(refine qad ?_;clear hw;intro w hw)|(refine qab ?_;clear hw;intro s w hw))
  refine qao (n:=5) (p:=pc) (vs:=[.int .i64 S3.st,.int .i64 S3.ini,uv,ue,ug]) rfl rfl hw inferInstance rfl rfl (by simp only [List.all_cons,List.all_nil,o1,o2,o3];rfl) ?_
  clear hw;intro w hw
  repeat (first|refine qac ?_|(refine qaa ?_;clear hw;intro p w hw)|(refine qad ?_;clear hw;intro w hw)|(refine qab ?_;clear hw;intro s w hw))
  rw [hfin]
  have hw:Sat w0 w (Box pr 96 [.int .i64 0,.int .i64 0,.slice none 0 0,.slice none 0 0,.slice none 0 0]::Box pa 92 [vv,sv,dv,.bool ex]::OS tStg 103 sv ms::RdH (StR ms LL)::Γ):=hw.selG
  refine qap (parts:=[]) (vs:=[]) rfl rfl rfl ?_
  repeat (first|refine qac ?_|(refine qaa ?_;clear hw;intro p w hw)|(refine qad ?_;clear hw;intro w hw)|(refine qab ?_;clear hw;intro s w hw))
  refine qar (p:=pr) (vs:=[.int .i64 0,.int .i64 0,.slice none 0 0,.slice none 0 0,.slice none 0 0]) rfl rfl (v':=errV ec) (by rw [qan hec];rfl) rfl (fun j v hv=>qau (i:=0) hw rfl hv) ⟨.slice none 0 0,.slice none 0 0,.slice none 0 0,sv,ms,ex,rfl,fun h=>absurd h hec,?_⟩
  have h9:Sat w0 _ (RdH (fun w=>RSys w (.slice none 0 0) (.slice none 0 0) (.slice none 0 0) sysNo)::_):=Sat.rd0 (fun w=>⟨RS.nil,RS.nil,RS.nil⟩) hw
  exact h9.selG
 rw [if_neg (fun h=>h he3)] at hN
 rw [qas he3]
 repeat (first|refine qac ?_|(refine qaa ?_;clear hw;intro p w hw)|(refine qad ?_;clear hw;intro w hw)|(refine qab ?_;clear hw;intro s w hw))
 refine qao (n:=5) (p:=pc) (vs:=[.int .i64 S3.st,.int .i64 S3.ini,uv,ue,ug]) rfl rfl hw inferInstance rfl rfl (by simp only [List.all_cons,List.all_nil,o1,o2,o3];rfl) ?_
 clear hw;intro w hw
 repeat (first|refine qac ?_|(refine qaa ?_;clear hw;intro p w hw)|(refine qad ?_;clear hw;intro w hw)|(refine qab ?_;clear hw;intro s w hw))
 have hst:S3.st=S.st*S2.st:=by rw [hS3];unfold prdS;rw [if_pos (her3.symm.trans he3)]
 have hp1:S.st*S2.st≤4096:=by
  have h:=her3.symm.trans he3
  unfold prdErr at h
  by_cases c1:ValS S∧ValS S2∧S.costs=S2.costs
  ·rw [if_pos c1] at h
   by_cases c2:4096<S.st*S2.st
   ·rw [if_pos c2] at h;exact absurd h (by decide)
   ·omega
  ·rw [if_neg c1] at h;exact absurd h (by decide)
 have hp0:1*1≤S.st*S2.st:=Int.mul_le_mul hI1.st1 hI2.st1 (by omega) (by have:=hI1.st1;omega)
 refine⟨k+1,⟨rfl,trivial⟩,agr,⟨by omega,by rw [hN],fun _ => ?_,sv,ms,ex,uv,ue,ug,?_⟩,by omega⟩
 ·rw [hN]
  refine⟨by show 1≤S3.st;omega,by show S3.st≤4096;omega,?_,by show LL.length=k+1;rw [hLL,List.length_append,x4];rfl⟩
  show Ch t.vars LL S3.st
  rw [hst,hLL]
  exact Ch.snoc X.sts X.cur.st S.st ⟨(k:Int),C2,C,S2.st⟩ x3 (by show (k:Int)=_;rw [x4]) (by show (C2.length:Int)=_;rw [hI2.len,hAd,x4]) hI2.rng (by rw [x4];omega) hI1.len hI1.rng hp1
 ·rw [hN]
  have h1:Sat w0 w (OS tInt 3 uv S3.costs::OS tEdg 196 ue S3.edges::OS tBool 4 ug S3.goals::Box pc 96 [.int .i64 S3.st,.int .i64 S3.ini,uv,ue,ug]::Box pa 92 [vv,sv,dv,.bool ex]::OS tStg 103 sv ms::RdH (StR ms LL)::Box pr 96 [.int .i64 0,.int .i64 0,.slice none 0 0,.slice none 0 0,.slice none 0 0]::Box pt 26 [a,b,c,d]::Γ):=hw.selG
  have h2:=Sat.rd (Δ:=[_,_,_]) (φ:=fun w=>RSys w uv ue ug S3) (fun _ _ h=>⟨h.rs 0 rfl,h.rs 1 rfl,h.rs 2 rfl⟩) h1
  exact h2.selG
end Go.Proofs.YtjdlohdcdmhigaaGreatDoor
