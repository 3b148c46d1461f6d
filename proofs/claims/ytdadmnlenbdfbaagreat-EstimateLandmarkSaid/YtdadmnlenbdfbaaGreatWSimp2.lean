/-
  Contract of simplex.eliminate.
-/
import Derived.Test.YtdadmnlenbdfbaaGreatWSimp1
import Derived.Test.YtdadmnlenbdfbaaGreatMSlB
import Derived.Test.YtdadmnlenbdfbaaGreatMTA
set_option linter.unusedSimpArgs false
set_option linter.unusedVariables false
namespace Go.Proofs.YtdadmnlenbdfbaaGreat
open Go.Sl Go
attribute [local irreducible] vc opsW opsD opV opW PureV ReadV Thn Blk
set_option maxRecDepth 8000 in
set_option maxHeartbeats 4000000 in
theorem qer {w0 w:World}{Γ:List HP}{rv pv:Value}{xs ys:List Frc}{f:Frc}(hl:xs.length≤ys.length) (hw:Sat w0 w (OS tFrc 146 rv xs::OS tFrc 146 pv ys::Γ)) :
  Calls Tryz.prog 102 #[rv,pv,frcV f] w fun e w'=>e=.returned (errV (elimF f xs ys).1)∧∃ zs,zs.length=xs.length∧((elimF f xs ys).1=0→zs=(elimF f xs ys).2)∧Sat w0 w' (OS tFrc 146 rv zs::OS tFrc 146 pv ys::Γ):=by
 obtain⟨R,hR⟩:∃ R,R=elimF f xs ys:=⟨_,rfl⟩
 rw [←hR]
 have hbx:=(rsO (s:=rv) hw).big
 refine qaf (args:=[rv,pv,frcV f]) mixed Tryz.func102 rfl (by kernel_rfl) (Nat.le_of_ble_eq_true rfl) ?_
 repeat (first|refine qac ?_|(refine qaa ?_;clear hw;intro p w hw)|(refine qad ?_;clear hw;intro w hw)|(refine qab ?_;clear hw;intro s w hw))
 obtain⟨p5,rfl⟩:∃ x,x=p:=⟨_,rfl⟩
 refine qat [6,7,8,9,12,13,14,15,16,17,18,19,20,21,22,23,24,25,26,27,28,29,30,31,32,33,34,35] (G:=Nat) (H:=List Frc) (fun k _=>[(12,.int .i64 k)]) (fun k P w=>k≤xs.length∧P.length=k∧R.1=(elimF f (xs.drop k) (ys.drop k)).1∧(R.1=0→R.2=P++(elimF f (xs.drop k) (ys.drop k)).2)∧Sat w0 w (Box p5 146 [.int .i64 f.num,.int .i64 f.den]::OS tFrc 146 rv (P++xs.drop k)::OS tFrc 146 pv ys::Γ)) (fun k _=>xs.length-k) 0 [] (fun _ _=>rfl) ⟨rfl,trivial⟩ ⟨Nat.zero_le _,rfl,by rw [hR];rfl,by rw [hR];exact fun _=>rfl,hw⟩ ?_
 clear hw
 rintro σ k P w ⟨hk,hP,hR1,hR2,hw⟩
 have hlen:=qdG hP hk
 repeat (first|refine qac ?_|(refine qaa ?_;clear hw;intro p w hw)|(refine qad ?_;clear hw;intro w hw)|(refine qab ?_;clear hw;intro s w hw))
 refine go_if (fun h1 => ?_) (fun h1 => ?_)
 ·have hkl:k<xs.length:=by omega
  have hky:k<ys.length:=by omega
  rw [qaR tFrc.dflt hkl,qaR tFrc.dflt hky] at hR1 hR2
  unfold elimF at hR1 hR2
  have hat:=qe5 (d:=tFrc.dflt) hP hkl
  obtain⟨L,hL⟩:∃ L,L=lessF (xs.getD k tFrc.dflt) f (ys.getD k tFrc.dflt):=⟨_,rfl⟩
  rw [←hL] at hR1 hR2
  repeat (first|refine qac ?_|(refine qaa ?_;clear hw;intro p w hw)|(refine qae ?_;clear hw;intro w hw)|(refine qab ?_;clear hw;intro s w hw))
  refine qby [8,9,15,16,17,18,19,20,21,22,23,24,25,26,27] (G:=Addr × Frc) (fun x=>[(8,.pointer (some x.1)),(9,errV L.1)]) (fun x w=>(L.1=0→x.2=L.2)∧Sat w0 w (Box x.1 146 [.int .i64 x.2.num,.int .i64 x.2.den]::Box p5 146 [.int .i64 f.num,.int .i64 f.den]::OS tFrc 146 rv (P++xs.drop k)::OS tFrc 146 pv ys::Γ)) (fun _=>rfl) ?_ ?_
  ·refine qbf (.step 0 [.op 0] (.step 1 [.op 1] (.step 2 [.op 2] (.step 5 [.op 5] (.step 6 [.op 6] (.step 7 [.op 7] (.step 3 [.op 3] (.step 4 [.op 4] (.step 8 [.op 8] (.alt 9 [.op 9] (.step 10 [.op 10] (.step 11 [.op 11] (.step 12 [.op 12] (.step 13 [.op 13,.chk 3,.chk 4,.chk 8] (.step 14 [.op 14] (.step 15 [.op 15] (.lin []))))))) (.alt 13 [.op 13,.chk 3,.chk 4,.chk 8] (.step 9 [.op 9] (.step 10 [.op 10] (.step 11 [.op 11] (.step 12 [.op 12] (.step 14 [.op 14] (.step 15 [.op 15] (.lin []))))))) (.stop)))))))))))) hw (by kernel_rfl) (by kernel_rfl) ?_;clear hw;intro w hw
   repeat (first|refine qac ?_|(refine qaa ?_;clear hw;intro p w hw)|(refine qae ?_;clear hw;intro w hw)|(refine qab ?_;clear hw;intro s w hw))
   refine qax ?_ (qax ?_ qaG)
   ·repeat (first|refine qac ?_|(refine qaa ?_;clear hw;intro p w hw)|(refine qae ?_;clear hw;intro w hw)|(refine qab ?_;clear hw;intro s w hw))
    refine qag rfl (qdp ((P++xs.drop k).getD k tFrc.dflt) f (ys.getD k tFrc.dflt)) ?_
    rintro _ w' ⟨⟨g,rfl,hg⟩,hk'⟩;replace hw:=hw.call0 hk';clear hk';refine⟨_,rfl,?_⟩;rw [hat,←hL] at hg
    repeat (first|refine qac ?_|(refine qaa ?_;clear hw;intro p w hw)|(refine qae ?_;clear hw;intro w hw)|(refine qab ?_;clear hw;intro s w hw))
    rw [hat,←hL]
    exact⟨(_,g),⟨rfl,rfl,trivial⟩,agr,hg,hw⟩
   ·repeat (first|refine qac ?_|(refine qaa ?_;clear hw;intro p w hw)|(refine qae ?_;clear hw;intro w hw)|(refine qab ?_;clear hw;intro s w hw))
    refine qag rfl (qdp ((P++xs.drop k).getD k tFrc.dflt) f (ys.getD k tFrc.dflt)) ?_
    rintro _ w' ⟨⟨g,rfl,hg⟩,hk'⟩;replace hw:=hw.call0 hk';clear hk';refine⟨_,rfl,?_⟩;rw [hat,←hL] at hg
    repeat (first|refine qac ?_|(refine qaa ?_;clear hw;intro p w hw)|(refine qae ?_;clear hw;intro w hw)|(refine qab ?_;clear hw;intro s w hw))
    rw [hat,←hL]
    exact⟨(_,g),⟨rfl,rfl,trivial⟩,agr,hg,hw⟩
  clear hw
  rintro σ1 ⟨p8,g⟩ w ⟨hg,hw⟩
  simp only at hg hw
  by_cases he:L.1=0
  ·rw [if_pos he] at hR1 hR2
   have hg:=hg he
   rw [qam he]
   repeat (first|refine qac ?_|(refine qaa ?_;clear hw;intro p w hw)|(refine qad ?_;clear hw;intro w hw)|(refine qab ?_;clear hw;intro s w hw))
   refine qaP (T:=tFrc) (s:=rv) (xs:=P++xs.drop k) (j:=k) (x':=g) rfl rfl rfl rfl hw inferInstance (by omega) ?_
   clear hw
   intro w hw
   repeat (first|refine qac ?_|(refine qaa ?_;clear hw;intro p w hw)|(refine qad ?_;clear hw;intro w hw)|(refine qab ?_;clear hw;intro s w hw))
   rw [qcd hP hkl] at hw
   refine⟨k+1,P++[g],⟨rfl,trivial⟩,agr,⟨by omega,by simp [hP],?_,?_,hw.tail⟩,by omega⟩
   ·rw [hR1];split
    ·rename_i h;exact h.symm
    ·rfl
   ·intro h0
    rw [hR1] at h0
    split at h0
    ·rename_i h2
     rw [hR2 (by rw [hR1,if_pos h2]),if_pos h2,hg,List.append_assoc];rfl
    ·rename_i h2;exact absurd h0 h2
  ·rw [if_neg he] at hR1 hR2
   rw [qaj he]
   repeat (first|refine qac ?_|(refine qaa ?_;clear hw;intro p w hw)|(refine qad ?_;clear hw;intro w hw)|(refine qab ?_;clear hw;intro s w hw))
   exact qai (v:=.iface 35 (.int .i64 L.1)) rfl rfl ⟨by rw [hR1,qaj he],P++xs.drop k,hlen,fun h=>absurd (hR1 ▸ h) he,hw.tail.tail⟩
 have hke:k=xs.length:=by omega
 subst hke
 rw [List.drop_length] at hR1 hR2
 repeat (first|refine qac ?_|(refine qaa ?_;clear hw;intro p w hw)|(refine qad ?_;clear hw;intro w hw)|(refine qab ?_;clear hw;intro s w hw))
 have h0:R.1=0:=hR1
 exact qai (v:=.nilIface) rfl rfl ⟨by rw [qam h0],P,hP,fun h=>by rw [hR2 h];simp [elimF],by simpa using hw.tail⟩
end Go.Proofs.YtdadmnlenbdfbaaGreat
