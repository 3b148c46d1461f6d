/-
  Contract of simplex's pivot.
-/
import Derived.Test.YtdadmnlenbdfbaaGreatWSimp2
import Derived.Test.YtdadmnlenbdfbaaGreatMSlB
set_option linter.unusedSimpArgs false
set_option linter.unusedVariables false
namespace Go.Proofs.YtdadmnlenbdfbaaGreat
open Go.Sl Go
attribute [local irreducible] vc opsW opsD opV opW PureV ReadV Thn Blk
theorem qeI {r k:Nat}{rowR:List Frc}{xr:Frc}:∀ {rows:List (List Frc)}{right:List Frc}{i:Nat},i≤r→elimRs r k rowR xr i (rows.set (r-i) rowR) (right.set (r-i) xr)=elimRs r k rowR xr i rows right
 | [],_,_,_=>rfl
 | _::_,[],_,_=>by
  rename_i i h
  cases hh:r-i <;> rfl
 | row::rows,x::right,i,h=>by
  by_cases e:i=r
  ·have e2:r-i=0:=by omega
   rw [e2,List.set_cons_zero,List.set_cons_zero]
   unfold elimRs
   rw [if_pos e,if_pos e]
  ·have e2:r-i=(r-(i+1))+1:=by omega
   have ih:=qeI (r:=r) (k:=k) (rowR:=rowR) (xr:=xr) (rows:=rows) (right:=right) (i:=i+1) (by omega)
   rw [e2,List.set_cons_succ,List.set_cons_succ]
   unfold elimRs
   rw [if_neg e,if_neg e,ih]
theorem qgH {r k i:Nat}{R row:List Frc}{x y F:Frc}{rows:List (List Frc)}{right:List Frc}{L3:Int × List Frc}{L4:Int × Frc}{T:Int × List (List Frc) × List Frc}(hF:F=row.getD k tFrc.dflt) (h3:L3=elimF F row R) (h4:L4=lessF y F x) (hT:T=elimRs r k R x (i+1) rows right) :
  elimRs r k R x i (row::rows) (y::right)=if i=r then (if T.1=0 then (0,R::T.2.1,x::T.2.2) else (T.1,[],[])) else if L3.1=0 then (if L4.1=0 then (if T.1=0 then (0,L3.2::T.2.1,L4.2::T.2.2) else (T.1,[],[])) else (L4.1,[],[])) else (L3.1,[],[]):=by
 subst hT h4 h3 hF
 conv=>lhs;unfold elimRs
 rfl
theorem qjo {T:Int × List (List Frc) × List Frc}{a:List Frc}{b:Frc}{E:Int × List (List Frc) × List Frc}{P1:List (List Frc)}{P2:List Frc}(h1:E.1=(if T.1=0 then ((0:Int),a::T.2.1,b::T.2.2) else (T.1,[],[])).1) (h2:E.1=0→E.2.1=P1++(if T.1=0 then ((0:Int),a::T.2.1,b::T.2.2) else (T.1,[],[])).2.1∧E.2.2=P2++(if T.1=0 then ((0:Int),a::T.2.1,b::T.2.2) else (T.1,[],[])).2.2):E.1=T.1∧(E.1=0→E.2.1=(P1++[a])++T.2.1∧E.2.2=(P2++[b])++T.2.2):=by
 by_cases h:T.1=0
 ·rw [if_pos h] at h1 h2
  exact⟨by rw [h1,h],fun h0=>by simpa using h2 h0⟩
 ·rw [if_neg h] at h1 h2
  exact⟨h1,fun h0=>absurd (h1.symm.trans h0) h⟩
theorem qmg (S:SimS) (r k:Nat) {D:Frc}{E1:Int × List Frc}{E2 E5 E6:Int × Frc}{E3:Int × List (List Frc) × List Frc}{E4:Int × List Frc}(hD:D=(S.rows.getD r []).getD k tFrc.dflt) (h1:E1=divL D (S.rows.getD r [])) (h2:E2=divF 22 (S.right.getD r tFrc.dflt) D) (h3:E3=elimRs r k E1.2 E2.2 0 S.rows S.right) (h4:E4=elimF (S.goal.getD k tFrc.dflt) S.goal E1.2) (h5:E5=mulF (S.goal.getD k tFrc.dflt) E2.2) (h6:E6=addF S.value E5.2) :
  pivS S r k=if E1.1≠0 then (E1.1,S) else if E2.1≠0 then (E2.1,S) else if E3.1≠0 then (E3.1,S) else if E4.1≠0 then (E4.1,S) else if E5.1≠0 then (E5.1,S) else if E6.1≠0 then (E6.1,S) else (0,⟨E3.2.1,E3.2.2,S.basic.set r (k:Int),E4.2,E6.2⟩):=by
 subst h6 h5 h4 h3 h2 h1 hD
 rfl
def TabP (pt:Addr) (n m:Int) (rv bv av gv:Value) (ss:List Value) (S:SimS):List HP:=[Box pt 177 [.int .i64 n,.int .i64 m,rv,bv,av,gv,.int .i64 S.value.num,.int .i64 S.value.den],OS tVal 110 rv ss,RowsAt tFrc 146 ss S.rows,OS tFrc 146 bv S.right,OS tInt 3 av S.basic,OS tFrc 146 gv S.goal]
set_option maxRecDepth 8000 in
set_option maxHeartbeats 8000000 in
theorem qg0 {w0 w:World}{Γ:List HP}{pt:Addr}{n m:Int}{rv bv av gv:Value}{ss:List Value}{S:SimS}{N M r k:Nat}(hS:SimOk N M S) (hr:r<M) (hk:k<N) (hN:N≤4096) (hM:M≤4096) (hw:Sat w0 w (Box pt 177 [.int .i64 n,.int .i64 m,rv,bv,av,gv,.int .i64 S.value.num,.int .i64 S.value.den]::OS tVal 110 rv ss::RowsAt tFrc 146 ss S.rows::OS tFrc 146 bv S.right::OS tInt 3 av S.basic::OS tFrc 146 gv S.goal::Γ)) :
  Calls Tryz.prog 92 #[.pointer (some pt),.int .i64 r,.int .i64 k] w fun e w'=>e=.returned (errV (pivS S r k).1)∧((pivS S r k).1≠0→Sat w0 w' Γ)∧((pivS S r k).1=0→Sat w0 w' (TabP pt n m rv bv av gv ss (pivS S r k).2++Γ)):=by
 obtain⟨R,hR⟩:∃ R,R=pivS S r k:=⟨_,rfl⟩
 rw [←hR]
 obtain⟨D,hD⟩:∃ D,D=(S.rows.getD r []).getD k tFrc.dflt:=⟨_,rfl⟩
 obtain⟨E1,hE1⟩:∃ E,E=divL D (S.rows.getD r []):=⟨_,rfl⟩
 obtain⟨E2,hE2⟩:∃ E,E=divF 22 (S.right.getD r tFrc.dflt) D:=⟨_,rfl⟩
 obtain⟨E3,hE3⟩:∃ E,E=elimRs r k E1.2 E2.2 0 S.rows S.right:=⟨_,rfl⟩
 obtain⟨E4,hE4⟩:∃ E,E=elimF (S.goal.getD k tFrc.dflt) S.goal E1.2:=⟨_,rfl⟩
 obtain⟨E5,hE5⟩:∃ E,E=mulF (S.goal.getD k tFrc.dflt) E2.2:=⟨_,rfl⟩
 obtain⟨E6,hE6⟩:∃ E,E=addF S.value E5.2:=⟨_,rfl⟩
 rw [qmg S r k hD hE1 hE2 hE3 hE4 hE5 hE6] at hR
 have h1:=hS.rl
 have h2:=hS.bl
 have h3:=hS.al
 have h4:=hS.gl
 have hrow:(S.rows.getD r []).length=N:=hS.rw_ _ (qan [] (by omega))
 replace hw:Sat w0 w (RowsAt tFrc 146 ss S.rows::Box pt 177 [.int .i64 n,.int .i64 m,rv,bv,av,gv,.int .i64 S.value.num,.int .i64 S.value.den]::OS tVal 110 rv ss::OS tFrc 146 bv S.right::OS tInt 3 av S.basic::OS tFrc 146 gv S.goal::Γ):=hw.selG
 have hsl:ss.length=M:=by
  have:=hw.rowsLen
  omega
 obtain⟨Δ,hw',hback⟩:=hw.rowOne (i:=r) (by omega)
 clear hw
 have hw:=hw'
 clear hw'
 obtain⟨row,hrw⟩:∃ row,row=S.rows.getD r []:=⟨_,rfl⟩
 rw [←hrw] at hw hrow hD hE1
 refine qaf (args:=[.pointer (some pt),.int .i64 r,.int .i64 k]) mixed Tryz.func92 rfl (by kernel_rfl) (Nat.le_of_ble_eq_true rfl) ?_
 repeat (first|refine qac ?_|(refine qaa ?_;clear hw;intro p w hw)|(refine qad ?_;clear hw;intro w hw)|(refine qab ?_;clear hw;intro s w hw))
 rw [←hD] at hw
 obtain⟨p8,rfl⟩:∃ x,x=p:=⟨_,rfl⟩
 have eD:tFrc.enc D=[.int .i64 D.num,.int .i64 D.den]:=rfl
 rw [eD] at hw
 refine qat [6,9,10,11,32,33,34,35,36,37,38,39,40,41,42,43,44,45,46,47,48,49,50,51] (G:=Nat) (H:=List Frc) (fun k _=>[(32,.int .i64 k)]) (fun k P w=>k≤row.length∧P.length=k∧E1.1=(divL D (row.drop k)).1∧(E1.1=0→E1.2=P++(divL D (row.drop k)).2)∧Sat w0 w (Box p8 146 [.int .i64 D.num,.int .i64 D.den]::OS tFrc 146 (vget ss r) (P++row.drop k)::Pack Δ::Box pt 177 [.int .i64 n,.int .i64 m,rv,bv,av,gv,.int .i64 S.value.num,.int .i64 S.value.den]::OS tVal 110 rv ss::OS tFrc 146 bv S.right::OS tInt 3 av S.basic::OS tFrc 146 gv S.goal::Γ)) (fun k _=>row.length-k) 0 [] (fun _ _=>rfl) ⟨rfl,trivial⟩ ⟨Nat.zero_le _,rfl,by rw [hE1];rfl,by rw [hE1];exact fun _=>rfl,hw⟩ ?_
 clear hw
 rintro σ i P w ⟨hi,hP,hD1,hD2,hw⟩
 have hlen:=qdG hP hi
 repeat (first|refine qac ?_|(refine qaa ?_;clear hw;intro p w hw)|(refine qad ?_;clear hw;intro w hw)|(refine qab ?_;clear hw;intro s w hw))
 refine go_if (fun g1 => ?_) (fun g1 => ?_)
 ·have hil:i<row.length:=by omega
  have hat:=qe5 (d:=tFrc.dflt) hP hil
  rw [qaR tFrc.dflt hil] at hD1 hD2
  unfold divL at hD1 hD2
  obtain⟨L,hL⟩:∃ L,L=divF 22 (row.getD i tFrc.dflt) D:=⟨_,rfl⟩
  rw [←hL] at hD1 hD2
  repeat (first|refine qac ?_|(refine qaa ?_;clear hw;intro p w hw)|(refine qae ?_;clear hw;intro w hw)|(refine qab ?_;clear hw;intro s w hw))
  refine qby [10,11,35,36,37,38,39,40,41,42,43] (G:=Addr) (fun x=>[(10,.pointer (some x)),(11,errV L.1)]) (fun x w=>Sat w0 w (Box x 146 [.int .i64 L.2.num,.int .i64 L.2.den]::Box p8 146 [.int .i64 D.num,.int .i64 D.den]::OS tFrc 146 (vget ss r) (P++row.drop i)::Pack Δ::Box pt 177 [.int .i64 n,.int .i64 m,rv,bv,av,gv,.int .i64 S.value.num,.int .i64 S.value.den]::OS tVal 110 rv ss::OS tFrc 146 bv S.right::OS tInt 3 av S.basic::OS tFrc 146 gv S.goal::Γ)) (fun _=>rfl) ?_ ?_
  ·refine qbf (.step 0 [.op 0] (.step 1 [.op 1] (.step 2 [.op 2] (.step 3 [.op 3] (.step 4 [.op 4] (.alt 5 [.op 5] (.step 6 [.op 6] (.step 7 [.op 7] (.step 8 [.op 8] (.step 9 [.op 9,.chk 3,.chk 4] (.step 10 [.op 10] (.step 11 [.op 11] (.lin []))))))) (.alt 9 [.op 9,.chk 3,.chk 4] (.step 5 [.op 5] (.step 6 [.op 6] (.step 7 [.op 7] (.step 8 [.op 8] (.step 10 [.op 10] (.step 11 [.op 11] (.lin []))))))) (.stop)))))))) hw (by kernel_rfl) (by kernel_rfl) ?_;clear hw;intro w hw
   repeat (first|refine qac ?_|(refine qaa ?_;clear hw;intro p w hw)|(refine qae ?_;clear hw;intro w hw)|(refine qab ?_;clear hw;intro s w hw))
   refine qax ?_ (qax ?_ qaG)
   ·repeat (first|refine qac ?_|(refine qaa ?_;clear hw;intro p w hw)|(refine qae ?_;clear hw;intro w hw)|(refine qab ?_;clear hw;intro s w hw))
    refine qag rfl (qbH ((P++row.drop i).getD i tFrc.dflt) D) ?_
    rintro _ w' ⟨rfl,hk'⟩;replace hw:=hw.call0 hk';clear hk';refine⟨_,rfl,?_⟩
    repeat (first|refine qac ?_|(refine qaa ?_;clear hw;intro p w hw)|(refine qae ?_;clear hw;intro w hw)|(refine qab ?_;clear hw;intro s w hw))
    rw [hat,←hL] at hw ⊢
    exact⟨_,⟨rfl,rfl,trivial⟩,agr,hw⟩
   ·repeat (first|refine qac ?_|(refine qaa ?_;clear hw;intro p w hw)|(refine qae ?_;clear hw;intro w hw)|(refine qab ?_;clear hw;intro s w hw))
    refine qag rfl (qbH ((P++row.drop i).getD i tFrc.dflt) D) ?_
    rintro _ w' ⟨rfl,hk'⟩;replace hw:=hw.call0 hk';clear hk';refine⟨_,rfl,?_⟩
    repeat (first|refine qac ?_|(refine qaa ?_;clear hw;intro p w hw)|(refine qae ?_;clear hw;intro w hw)|(refine qab ?_;clear hw;intro s w hw))
    rw [hat,←hL] at hw ⊢
    exact⟨_,⟨rfl,rfl,trivial⟩,agr,hw⟩
  clear hw
  rintro σ1 p10 w hw
  by_cases he:L.1=0
  ·rw [if_pos he] at hD1 hD2
   rw [qam he]
   repeat (first|refine qac ?_|(refine qaa ?_;clear hw;intro p w hw)|(refine qad ?_;clear hw;intro w hw)|(refine qab ?_;clear hw;intro s w hw))
   refine qaP (T:=tFrc) (s:=vget ss r) (xs:=P++row.drop i) (j:=i) (x':=L.2) rfl rfl rfl rfl hw inferInstance (by omega) ?_
   clear hw
   intro w hw
   repeat (first|refine qac ?_|(refine qaa ?_;clear hw;intro p w hw)|(refine qad ?_;clear hw;intro w hw)|(refine qab ?_;clear hw;intro s w hw))
   rw [qcd hP hil] at hw
   refine⟨i+1,P++[L.2],⟨rfl,trivial⟩,agr,⟨by omega,by simp [hP],?_,?_,hw.tail⟩,by omega⟩
   ·rw [hD1];split
    ·rename_i h;exact h.symm
    ·rfl
   ·intro h0
    rw [hD1] at h0
    split at h0
    ·rename_i h2
     rw [hD2 (by rw [hD1,if_pos h2]),if_pos h2,List.append_assoc];rfl
    ·rename_i h2;exact absurd h0 h2
  ·rw [if_neg he] at hD1 hD2
   have hD3:E1.1=L.1:=hD1
   rw [←hD3] at he ⊢
   rw [if_pos he] at hR
   rw [qaj he];(repeat (first|refine qac ?_|(refine qaa ?_;clear hw;intro p w hw)|(refine qad ?_;clear hw;intro w hw)|(refine qab ?_;clear hw;intro s w hw)));exact qai (v:=.iface 35 (.int .i64 E1.1)) rfl rfl ⟨by rw [hR,qaj he],fun _=>hw.selG,fun h=>absurd (by rw [hR] at h;exact h) he⟩
 have hie:i=row.length:=by omega
 subst hie
 rw [List.drop_length] at hD1 hD2 hw
 have he:E1.1=0:=hD1
 have hP2:E1.2=P:=by rw [hD2 he];simp [divL]
 rw [List.append_nil,←hP2] at hw
 rw [←hP2] at hP
 clear hD1 hD2 hlen P hP2
 rw [if_neg (Decidable.not_not.2 he)] at hR
 repeat (first|refine qac ?_|(refine qaa ?_;clear hw;intro p w hw)|(refine qae ?_;clear hw;intro w hw)|(refine qab ?_;clear hw;intro s w hw))
 refine qby [12,13,52,53,54,55,56,57,58,59,60,61,62,63] (G:=Addr) (fun x=>[(12,.pointer (some x)),(13,errV E2.1)]) (fun x w=>Sat w0 w (Box x 146 [.int .i64 E2.2.num,.int .i64 E2.2.den]::Box p8 146 [.int .i64 D.num,.int .i64 D.den]::OS tFrc 146 (vget ss r) E1.2::Pack Δ::Box pt 177 [.int .i64 n,.int .i64 m,rv,bv,av,gv,.int .i64 S.value.num,.int .i64 S.value.den]::OS tVal 110 rv ss::OS tFrc 146 bv S.right::OS tInt 3 av S.basic::OS tFrc 146 gv S.goal::Γ)) (fun _=>rfl) ?_ ?_
 ·refine qbf (.step 0 [.op 0] (.step 1 [.op 1] (.step 2 [.op 2] (.step 4 [.op 4] (.step 3 [.op 3] (.step 5 [.op 5] (.step 6 [.op 6] (.step 7 [.op 7] (.alt 8 [.op 8] (.step 9 [.op 9] (.step 10 [.op 10] (.step 11 [.op 11] (.step 12 [.op 12,.chk 3,.chk 6,.chk 7] (.step 13 [.op 13] (.step 14 [.op 14] (.lin []))))))) (.alt 12 [.op 12,.chk 3,.chk 6,.chk 7] (.step 8 [.op 8] (.step 9 [.op 9] (.step 10 [.op 10] (.step 11 [.op 11] (.step 13 [.op 13] (.step 14 [.op 14] (.lin []))))))) (.stop))))))))))) hw (by kernel_rfl) (by kernel_rfl) ?_;clear hw;intro w hw
  repeat (first|refine qac ?_|(refine qaa ?_;clear hw;intro p w hw)|(refine qae ?_;clear hw;intro w hw)|(refine qab ?_;clear hw;intro s w hw))
  refine qax ?_ (qax ?_ qaG)
  ·repeat (first|refine qac ?_|(refine qaa ?_;clear hw;intro p w hw)|(refine qae ?_;clear hw;intro w hw)|(refine qab ?_;clear hw;intro s w hw))
   refine qag rfl (qbH (S.right.getD r tFrc.dflt) D) ?_
   rintro _ w' ⟨rfl,hk'⟩;replace hw:=hw.call0 hk';clear hk';refine⟨_,rfl,?_⟩
   repeat (first|refine qac ?_|(refine qaa ?_;clear hw;intro p w hw)|(refine qae ?_;clear hw;intro w hw)|(refine qab ?_;clear hw;intro s w hw))
   rw [←hE2] at hw ⊢
   exact⟨_,⟨rfl,rfl,trivial⟩,agr,hw⟩
  ·repeat (first|refine qac ?_|(refine qaa ?_;clear hw;intro p w hw)|(refine qae ?_;clear hw;intro w hw)|(refine qab ?_;clear hw;intro s w hw))
   refine qag rfl (qbH (S.right.getD r tFrc.dflt) D) ?_
   rintro _ w' ⟨rfl,hk'⟩;replace hw:=hw.call0 hk';clear hk';refine⟨_,rfl,?_⟩
   repeat (first|refine qac ?_|(refine qaa ?_;clear hw;intro p w hw)|(refine qae ?_;clear hw;intro w hw)|(refine qab ?_;clear hw;intro s w hw))
   rw [←hE2] at hw ⊢
   exact⟨_,⟨rfl,rfl,trivial⟩,agr,hw⟩
 clear hw he
 rintro σ1 p12 w hw
 by_cases he:E2.1=0
 case neg =>
  rw [if_pos he] at hR
  rw [qaj he];(repeat (first|refine qac ?_|(refine qaa ?_;clear hw;intro p w hw)|(refine qad ?_;clear hw;intro w hw)|(refine qab ?_;clear hw;intro s w hw)));exact qai (v:=.iface 35 (.int .i64 E2.1)) rfl rfl ⟨by rw [hR,qaj he],fun _=>hw.selG,fun h=>absurd (by rw [hR] at h;exact h) he⟩
 rw [if_neg (Decidable.not_not.2 he)] at hR;rw [qam he]
 repeat (first|refine qac ?_|(refine qaa ?_;clear hw;intro p w hw)|(refine qad ?_;clear hw;intro w hw)|(refine qab ?_;clear hw;intro s w hw))
 refine qaP (T:=tFrc) (s:=bv) (xs:=S.right) (j:=r) (x':=E2.2) rfl rfl rfl rfl hw inferInstance (by omega) ?_
 clear hw
 intro w hw
 replace hw:Sat w0 w (OS tFrc 146 (vget ss r) E1.2::Pack Δ::Box p12 146 [.int .i64 E2.2.num,.int .i64 E2.2.den]::Box pt 177 [.int .i64 n,.int .i64 m,rv,bv,av,gv,.int .i64 S.value.num,.int .i64 S.value.den]::OS tVal 110 rv ss::OS tFrc 146 bv (S.right.set r E2.2)::OS tInt 3 av S.basic::OS tFrc 146 gv S.goal::Γ):=hw.selG
 replace hw:=hback hw
 obtain⟨A,hA⟩:∃ A,A=S.rows.set r E1.2:=⟨_,rfl⟩
 obtain⟨B,hB⟩:∃ B,B=S.right.set r E2.2:=⟨_,rfl⟩
 rw [←hA,←hB] at hw
 have hE3':E3=elimRs r k E1.2 E2.2 0 A B:=by rw [hE3,hA,hB];exact (qeI (i:=0) (Nat.zero_le _)).symm
 have hAl:A.length=M:=by rw [hA,List.length_set];exact h1
 have hBl:B.length=M:=by rw [hB,List.length_set];exact h2
 have hAr:A.getD r []=E1.2:=by rw [hA,qak (by rw [List.length_set];omega),List.getElem_set_self]
 have hBr:B.getD r tFrc.dflt=E2.2:=by rw [hB,qak (by rw [List.length_set];omega),List.getElem_set_self]
 have hAo:∀ i,i<M→(A.getD i []).length=N:=fun i hi=>by
  by_cases e:r=i
  ·rw [←e,hAr];omega
  ·rw [hA]
   simp only [List.getD]
   rw [List.getElem?_set_ne e]
   exact hS.rw_ _ (qan [] (by omega))
 clear hE3 he hback
 repeat (first|refine qac ?_|(refine qaa ?_;clear hw;intro p w hw)|(refine qad ?_;clear hw;intro w hw)|(refine qab ?_;clear hw;intro s w hw))
 refine qa7 [6,13,14,15,16,79,80,81,82,83,84,85,86,87,88,89,90,91,92,93,94,95,96,97,98,99,100,101,102,103,104,105,106,107,108,109,110,111,112,113,114,115,116,117,118,119,120,121,122,123,124,125,126,127,128,129,130,131,132,133,134,135,136] (G:=Nat) (H:=List (List Frc)) (I:=List Frc) (fun i _ _=>[(79,.int .i64 i)]) (fun i P1 P2 w=>i≤M∧P1.length=i∧P2.length=i∧(P1++A.drop i).getD r []=E1.2∧(P2++B.drop i).getD r tFrc.dflt=E2.2∧E3.1=(elimRs r k E1.2 E2.2 i (A.drop i) (B.drop i)).1∧(E3.1=0→E3.2.1=P1++(elimRs r k E1.2 E2.2 i (A.drop i) (B.drop i)).2.1∧E3.2.2=P2++(elimRs r k E1.2 E2.2 i (A.drop i) (B.drop i)).2.2)∧Sat w0 w (RowsAt tFrc 146 ss (P1++A.drop i)::Box p12 146 [.int .i64 E2.2.num,.int .i64 E2.2.den]::Box pt 177 [.int .i64 n,.int .i64 m,rv,bv,av,gv,.int .i64 S.value.num,.int .i64 S.value.den]::OS tVal 110 rv ss::OS tFrc 146 bv (P2++B.drop i)::OS tInt 3 av S.basic::OS tFrc 146 gv S.goal::Γ)) (fun i _ _=>M-i) 0 [] [] (fun _ _ _=>rfl) ⟨rfl,trivial⟩ ⟨Nat.zero_le _,rfl,rfl,hAr,hBr,by rw [hE3'];rfl,fun _=>by rw [hE3'];exact⟨rfl,rfl⟩,hw⟩ ?_
 clear hw
 rintro σ2 i P1 P2 w ⟨hi,hP1,hP2,hr1,hr2,hT1,hT2,hw⟩
 have hl1:=qdG (xs:=A) hP1 (by omega)
 have hl2:=qdG (xs:=B) hP2 (by omega)
 repeat (first|refine qac ?_|(refine qaa ?_;clear hw;intro p w hw)|(refine qad ?_;clear hw;intro w hw)|(refine qab ?_;clear hw;intro s w hw))
 refine go_if (fun g2 => ?_) (fun g2 => ?_)
 ·have him:i<M:=by omega
  have hiA:i<A.length:=by omega
  have hiB:i<B.length:=by omega
  have hAt:=qe5 (d:=([]:List Frc)) hP1 hiA
  have hBt:=qe5 (d:=tFrc.dflt) hP2 hiB
  obtain⟨F,hF⟩:∃ F,F=(A.getD i []).getD k tFrc.dflt:=⟨_,rfl⟩
  obtain⟨L3,hL3⟩:∃ L,L=elimF F (A.getD i []) E1.2:=⟨_,rfl⟩
  obtain⟨L4,hL4⟩:∃ L,L=lessF (B.getD i tFrc.dflt) F E2.2:=⟨_,rfl⟩
  obtain⟨T,hT⟩:∃ T,T=elimRs r k E1.2 E2.2 (i+1) (A.drop (i+1)) (B.drop (i+1)):=⟨_,rfl⟩
  rw [qaR [] hiA,qaR tFrc.dflt hiB,qgH hF hL3 hL4 hT] at hT1 hT2
  have hoi:=hAo i him
  repeat (first|refine qac ?_|(refine qaa ?_;clear hw;intro p w hw)|(refine qad ?_;clear hw;intro w hw)|(refine qab ?_;clear hw;intro s w hw))
  refine go_if (fun g3 => ?_) (fun g3 => ?_)
  ·have hir:i=r:=by omega
   rw [if_pos hir] at hT1 hT2
   obtain⟨hT3,hT4⟩:=qjo hT1 hT2
   rw [hT] at hT3 hT4
   repeat (first|refine qac ?_|(refine qaa ?_;clear hw;intro p w hw)|(refine qad ?_;clear hw;intro w hw)|(refine qab ?_;clear hw;intro s w hw))
   have e1:(P1++[E1.2])++A.drop (i+1)=P1++A.drop i:=by rw [qaR [] hiA,hir,hAr,List.append_assoc];rfl
   have e2:(P2++[E2.2])++B.drop (i+1)=P2++B.drop i:=by rw [qaR tFrc.dflt hiB,hir,hBr,List.append_assoc];rfl
   exact⟨i+1,P1++[E1.2],P2++[E2.2],⟨rfl,trivial⟩,agr,⟨by omega,by simp [hP1],by simp [hP2],by rw [e1];exact hr1,by rw [e2];exact hr2,hT3,hT4,by rw [e1,e2];exact hw⟩,by omega⟩
  have hir:i≠r:=by omega
  rw [if_neg hir] at hT1 hT2
  obtain⟨Δ2,hw2,hb2⟩:=hw.rowTwo (i:=i) (r:=r) (by omega) (by omega) hir
  rw [hr1] at hw2 hb2
  rw [hAt] at hw2
  clear hw
  have hw:=hw2
  clear hw2
  repeat (first|refine qac ?_|(refine qaa ?_;clear hw;intro p w hw)|(refine qad ?_;clear hw;intro w hw)|(refine qab ?_;clear hw;intro s w hw))
  rw [←hF] at hw ⊢
  rw [show tFrc.enc F=[.int .i64 F.num,.int .i64 F.den] from rfl] at hw
  obtain⟨p15,rfl⟩:∃ x,x=p:=⟨_,rfl⟩
  refine qag rfl (qer (rv:=vget ss i) (pv:=vget ss r) (xs:=A.getD i []) (ys:=E1.2) (f:=F) (by omega) (hw.selG (Δ:=OS tFrc 146 (vget ss i) (A.getD i [])::OS tFrc 146 (vget ss r) E1.2::Box p15 146 [.int .i64 F.num,.int .i64 F.den]::Pack Δ2::Box p12 146 [.int .i64 E2.2.num,.int .i64 E2.2.den]::Box pt 177 [.int .i64 n,.int .i64 m,rv,bv,av,gv,.int .i64 S.value.num,.int .i64 S.value.den]::OS tVal 110 rv ss::OS tFrc 146 bv (P2++B.drop i)::OS tInt 3 av S.basic::OS tFrc 146 gv S.goal::Γ))) ?_
  clear hw
  rintro _ w ⟨rfl,zs,hz1,hz2,hw⟩
  refine⟨_,rfl,?_⟩
  rw [←hL3] at hz2 ⊢
  by_cases he:L3.1=0
  case neg =>
   rw [if_neg he] at hT1
   have hD3:E3.1=L3.1:=hT1
   rw [←hD3] at he ⊢
   rw [if_pos he] at hR
   rw [qaj he];(repeat (first|refine qac ?_|(refine qaa ?_;clear hw;intro p w hw)|(refine qad ?_;clear hw;intro w hw)|(refine qab ?_;clear hw;intro s w hw)));exact qai (v:=.iface 35 (.int .i64 E3.1)) rfl rfl ⟨by rw [hR,qaj he],fun _=>hw.selG,fun h=>absurd (by rw [hR] at h;exact h) he⟩
  rw [if_pos he] at hT1 hT2
  rw [hz2 he] at hw
  rw [qam he]
  replace hw:Sat w0 w (OS tFrc 146 (vget ss i) L3.2::OS tFrc 146 (vget ss r) E1.2::Pack Δ2::Box p15 146 [.int .i64 F.num,.int .i64 F.den]::Box p12 146 [.int .i64 E2.2.num,.int .i64 E2.2.den]::Box pt 177 [.int .i64 n,.int .i64 m,rv,bv,av,gv,.int .i64 S.value.num,.int .i64 S.value.den]::OS tVal 110 rv ss::OS tFrc 146 bv (P2++B.drop i)::OS tInt 3 av S.basic::OS tFrc 146 gv S.goal::Γ):=hw.selG
  replace hw:=hb2 hw
  rw [qcd hP1 hiA] at hw
  clear he hb2
  repeat (first|refine qac ?_|(refine qaa ?_;clear hw;intro p w hw)|(refine qae ?_;clear hw;intro w hw)|(refine qab ?_;clear hw;intro s w hw))
  refine qay [.op 0,.op 1,.op 2,.op 3,.op 4,.op 5,.op 6,.op 7,.op 8,.op 9,.op 10,.op 11,.op 12,.op 13,.op 14,.op 15,.op 16,.op 17,.op 18,.op 19,.op 20,.chk 3,.op 21,.op 22,.op 23,.op 24,.op 25,.op 26] hw (by kernel_rfl) ?_;clear hw;intro w hw
  repeat (first|refine qac ?_|(refine qaa ?_;clear hw;intro p w hw)|(refine qae ?_;clear hw;intro w hw)|(refine qab ?_;clear hw;intro s w hw))
  refine qag rfl (qdp ((P2++B.drop i).getD i tFrc.dflt) F ((P2++B.drop i).getD r tFrc.dflt)) ?_
  rintro _ w' ⟨⟨g,rfl,hg⟩,hk'⟩
  replace hw:=hw.call0 hk'
  clear hk'
  refine⟨_,rfl,?_⟩
  rw [hBt,hr2,←hL4] at hg ⊢
  by_cases he:L4.1=0
  case neg =>
   rw [if_neg he] at hT1
   have hD3:E3.1=L4.1:=hT1
   rw [←hD3] at he ⊢
   rw [if_pos he] at hR
   rw [qaj he]
   repeat (first|refine qac ?_|(refine qaa ?_;clear hw;intro p w hw)|(refine qae ?_;clear hw;intro w hw)|(refine qab ?_;clear hw;intro s w hw))
   refine qaP (T:=tFrc) (s:=bv) (xs:=P2++B.drop i) (j:=i) (x':=g) rfl rfl rfl rfl hw inferInstance (by omega) ?_
   clear hw
   intro w hw
   repeat (first|refine qac ?_|(refine qaa ?_;clear hw;intro p w hw)|(refine qad ?_;clear hw;intro w hw)|(refine qab ?_;clear hw;intro s w hw))
   exact qai (v:=.iface 35 (.int .i64 E3.1)) rfl rfl ⟨by rw [hR,qaj he],fun _=>hw.selG,fun h=>absurd (by rw [hR] at h;exact h) he⟩
  rw [if_pos he] at hT1 hT2
  rw [qam he,hg he]
  repeat (first|refine qac ?_|(refine qaa ?_;clear hw;intro p w hw)|(refine qae ?_;clear hw;intro w hw)|(refine qab ?_;clear hw;intro s w hw))
  refine qaP (T:=tFrc) (s:=bv) (xs:=P2++B.drop i) (j:=i) (x':=L4.2) rfl rfl rfl rfl hw inferInstance (by omega) ?_
  clear hw
  intro w hw
  rw [qcd hP2 hiB] at hw
  obtain⟨hT3,hT4⟩:=qjo hT1 hT2
  rw [hT] at hT3 hT4
  repeat (first|refine qac ?_|(refine qaa ?_;clear hw;intro p w hw)|(refine qad ?_;clear hw;intro w hw)|(refine qab ?_;clear hw;intro s w hw))
  have e1:((P1++[L3.2])++A.drop (i+1)).getD r []=E1.2:=by
   rw [←qcd hP1 hiA,List.getD,List.getElem?_set_ne hir];exact hr1
  have e2:((P2++[L4.2])++B.drop (i+1)).getD r tFrc.dflt=E2.2:=by
   rw [←qcd hP2 hiB,List.getD,List.getElem?_set_ne hir];exact hr2
  exact⟨i+1,P1++[L3.2],P2++[L4.2],⟨rfl,trivial⟩,agr,⟨by omega,by simp [hP1],by simp [hP2],e1,e2,hT3,hT4,hw.selG⟩,by omega⟩
 have hie:i=M:=by omega
 have e1:A.drop i=[]:=List.drop_eq_nil_of_le (by omega)
 have e2:B.drop i=[]:=List.drop_eq_nil_of_le (by omega)
 rw [e1,e2] at hT1 hT2
 rw [e1,List.append_nil] at hr1 hw
 rw [e2,List.append_nil] at hr2 hw
 have he:E3.1=0:=hT1
 have hX1:E3.2.1=P1:=by rw [(hT2 he).1];simp [elimRs]
 have hX2:E3.2.2=P2:=by rw [(hT2 he).2];simp [elimRs]
 rw [←hX1] at hr1 hw hP1
 rw [←hX2] at hr2 hw hP2
 rw [if_neg (Decidable.not_not.2 he)] at hR
 clear hT1 hT2 hl1 hl2 he hX1 hX2 P1 P2 e1 e2
 obtain⟨Δ3,hw3,hb3⟩:=hw.rowOne (i:=r) (by omega)
 rw [hr1] at hw3
 clear hw
 have hw:=hw3
 clear hw3
 obtain⟨G,hG⟩:∃ G,G=S.goal.getD k tFrc.dflt:=⟨_,rfl⟩
 rw [←hG] at hE4 hE5
 repeat (first|refine qac ?_|(refine qaa ?_;clear hw;intro p w hw)|(refine qad ?_;clear hw;intro w hw)|(refine qab ?_;clear hw;intro s w hw))
 rw [←hG] at hw ⊢
 rw [show tFrc.enc G=[.int .i64 G.num,.int .i64 G.den] from rfl] at hw
 obtain⟨p17,rfl⟩:∃ x,x=p:=⟨_,rfl⟩
 refine qag rfl (qer (rv:=gv) (pv:=vget ss r) (xs:=S.goal) (ys:=E1.2) (f:=G) (by omega) (hw.selG (Δ:=OS tFrc 146 gv S.goal::OS tFrc 146 (vget ss r) E1.2::Box p17 146 [.int .i64 G.num,.int .i64 G.den]::Pack Δ3::Box p12 146 [.int .i64 E2.2.num,.int .i64 E2.2.den]::Box pt 177 [.int .i64 n,.int .i64 m,rv,bv,av,gv,.int .i64 S.value.num,.int .i64 S.value.den]::OS tVal 110 rv ss::OS tFrc 146 bv E3.2.2::OS tInt 3 av S.basic::Γ))) ?_
 clear hw
 rintro _ w ⟨rfl,zs,hz1,hz2,hw⟩
 refine⟨_,rfl,?_⟩
 rw [←hE4] at hz2 ⊢
 by_cases he:E4.1=0
 case neg =>
  rw [if_pos he] at hR
  rw [qaj he];(repeat (first|refine qac ?_|(refine qaa ?_;clear hw;intro p w hw)|(refine qad ?_;clear hw;intro w hw)|(refine qab ?_;clear hw;intro s w hw)));exact qai (v:=.iface 35 (.int .i64 E4.1)) rfl rfl ⟨by rw [hR,qaj he],fun _=>hw.selG,fun h=>absurd (by rw [hR] at h;exact h) he⟩
 rw [if_neg (Decidable.not_not.2 he)] at hR;rw [qam he]
 rw [hz2 he] at hw
 replace hw:Sat w0 w (OS tFrc 146 (vget ss r) E1.2::Pack Δ3::Box p17 146 [.int .i64 G.num,.int .i64 G.den]::Box p12 146 [.int .i64 E2.2.num,.int .i64 E2.2.den]::Box pt 177 [.int .i64 n,.int .i64 m,rv,bv,av,gv,.int .i64 S.value.num,.int .i64 S.value.den]::OS tVal 110 rv ss::OS tFrc 146 bv E3.2.2::OS tInt 3 av S.basic::OS tFrc 146 gv E4.2::Γ):=hw.selG
 replace hw:=hb3 hw
 have hsm:E3.2.1.set r E1.2=E3.2.1:=qhr (by rw [←hr1,qak (by omega)];exact List.getElem?_eq_getElem (by omega))
 rw [hsm] at hw
 clear he hz1 hz2
 repeat (first|refine qac ?_|(refine qaa ?_;clear hw;intro p w hw)|(refine qad ?_;clear hw;intro w hw)|(refine qab ?_;clear hw;intro s w hw))
 refine qag rfl (qgn G (E3.2.2.getD r tFrc.dflt)) ?_
 rintro _ w' ⟨rfl,hk'⟩;replace hw:=hw.call0 hk';clear hk';refine⟨_,rfl,?_⟩
 rw [hr2,←hE5]
 by_cases he:E5.1=0
 case neg =>
  rw [if_pos he] at hR
  rw [qaj he];(repeat (first|refine qac ?_|(refine qaa ?_;clear hw;intro p w hw)|(refine qad ?_;clear hw;intro w hw)|(refine qab ?_;clear hw;intro s w hw)));exact qai (v:=.iface 35 (.int .i64 E5.1)) rfl rfl ⟨by rw [hR,qaj he],fun _=>hw.selG,fun h=>absurd (by rw [hR] at h;exact h) he⟩
 rw [if_neg (Decidable.not_not.2 he)] at hR;rw [qam he]
 clear he
 repeat (first|refine qac ?_|(refine qaa ?_;clear hw;intro p w hw)|(refine qad ?_;clear hw;intro w hw)|(refine qab ?_;clear hw;intro s w hw))
 refine qaN rfl (qaQ (k:=6) (n:=2) (vs:=[.int .i64 S.value.num,.int .i64 S.value.den]) rfl (hw.boxR 3 rfl) rfl rfl) ?_
 repeat (first|refine qac ?_|(refine qaa ?_;clear hw;intro p w hw)|(refine qad ?_;clear hw;intro w hw)|(refine qab ?_;clear hw;intro s w hw))
 refine qag rfl (qgf S.value E5.2) ?_
 rintro _ w' ⟨rfl,hk'⟩;replace hw:=hw.call0 hk';clear hk';refine⟨_,rfl,?_⟩
 rw [←hE6]
 by_cases he:E6.1=0
 case neg =>
  rw [if_pos he] at hR
  rw [qaj he]
  repeat (first|refine qac ?_|(refine qaa ?_;clear hw;intro p w hw)|(refine qad ?_;clear hw;intro w hw)|(refine qab ?_;clear hw;intro s w hw))
  refine qfU (k:=6) (n:=2) (vs:=[.int .i64 E6.2.num,.int .i64 E6.2.den]) rfl rfl hw inferInstance rfl (Nat.le_of_ble_eq_true rfl) rfl rfl ?_
  clear hw
  intro w hw
  repeat (first|refine qac ?_|(refine qaa ?_;clear hw;intro p w hw)|(refine qad ?_;clear hw;intro w hw)|(refine qab ?_;clear hw;intro s w hw))
  exact qai (v:=.iface 35 (.int .i64 E6.1)) rfl rfl ⟨by rw [hR,qaj he],fun _=>hw.selG,fun h=>absurd (by rw [hR] at h;exact h) he⟩
 rw [if_neg (Decidable.not_not.2 he)] at hR;rw [qam he]
 repeat (first|refine qac ?_|(refine qaa ?_;clear hw;intro p w hw)|(refine qad ?_;clear hw;intro w hw)|(refine qab ?_;clear hw;intro s w hw))
 refine qfU (k:=6) (n:=2) (cells':=[.int .i64 n,.int .i64 m,rv,bv,av,gv,.int .i64 E6.2.num,.int .i64 E6.2.den]) (vs:=[.int .i64 E6.2.num,.int .i64 E6.2.den]) rfl rfl hw inferInstance rfl (Nat.le_of_ble_eq_true rfl) rfl rfl ?_
 clear hw
 intro w hw
 repeat (first|refine qac ?_|(refine qaa ?_;clear hw;intro p w hw)|(refine qad ?_;clear hw;intro w hw)|(refine qab ?_;clear hw;intro s w hw))
 rw [hR]
 exact qai (v:=.nilIface) rfl rfl ⟨by rw [qam rfl],fun h=>absurd rfl h,fun _=>hw.selG (Δ:=Box pt 177 [.int .i64 n,.int .i64 m,rv,bv,av,gv,.int .i64 E6.2.num,.int .i64 E6.2.den]::OS tVal 110 rv ss::RowsAt tFrc 146 ss E3.2.1::OS tFrc 146 bv E3.2.2::OS tInt 3 av (S.basic.set r (k:Int))::OS tFrc 146 gv E4.2::Γ)⟩
end Go.Proofs.YtdadmnlenbdfbaaGreat
