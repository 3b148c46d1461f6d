/-
  Contracts of fraction.times, Mul and Div.
-/
import Derived.Test.YtdadmnlenbdfbaaGreatMW19
set_option linter.unusedSimpArgs false
set_option linter.unusedVariables false
namespace Go.Proofs.YtdadmnlenbdfbaaGreat
open Go.Sl Go
attribute [local irreducible] vc opsW opsD opV opW PureV ReadV Thn Blk
set_option maxRecDepth 8000 in
set_option maxHeartbeats 4000000 in
theorem qct {w0:World}{n d o r:Int}(hn : -1099511627776≤n) (hn2:n≤1099511627776) (hd:1≤d) (hd2:d≤1099511627776) (ho : -1099511627776≤o) (ho2:o≤1099511627776) (hr:1≤r) (hr2:r≤1099511627776) :
  Calls Tryz.prog 105 #[.int .i64 n,.int .i64 d,.int .i64 o,.int .i64 r] w0 fun e w'=>e=.returned (.tuple #[frcV (timesF n d o r).2,errV (timesF n d o r).1])∧Sat w0 w' []:=by
 have hw:=Sat.start w0
 obtain⟨R,hR⟩:∃ R,R=timesF n d o r:=⟨_,rfl⟩
 rw [←hR]
 refine qaf (args:=[.int .i64 n,.int .i64 d,.int .i64 o,.int .i64 r]) mixed Tryz.func105 rfl (by kernel_rfl) (Nat.le_of_ble_eq_true rfl) ?_
 repeat (first|refine qac ?_|(refine qaa ?_;clear hw;intro p w hw)|(refine qad ?_;clear hw;intro w hw)|(refine qab ?_;clear hw;intro s w hw))
 refine go_if (fun h0 => ?_) (fun h0 => ?_)
 ·repeat (first|refine qac ?_|(refine qaa ?_;clear hw;intro p w hw)|(refine qad ?_;clear hw;intro w hw)|(refine qab ?_;clear hw;intro s w hw))
  have e:R=(0,⟨0,1⟩):=by rw [hR];exact if_pos h0
  subst e
  exact qar (vs:=[.int .i64 0,.int .i64 1]) rfl rfl rfl rfl (hw.boxR 0 rfl) ⟨rfl,hw.sel⟩
 unfold timesF at hR
 rw [if_neg (by omega)] at hR
 simp only at hR
 repeat (first|refine qac ?_|(refine qaa ?_;clear hw;intro p w hw)|(refine qad ?_;clear hw;intro w hw)|(refine qab ?_;clear hw;intro s w hw))
 refine qag rfl (qa2 (n:=n) (by omega) (by omega)) ?_
 rintro _ w' ⟨rfl,hk'⟩;replace hw:=hw.call0 hk';clear hk';refine⟨_,rfl,?_⟩
 repeat (first|refine qac ?_|(refine qaa ?_;clear hw;intro p w hw)|(refine qae ?_;clear hw;intro w hw)|(refine qab ?_;clear hw;intro s w hw))
 refine qag rfl (qc8 (a:=(n.natAbs:Int)) (b:=r) (by omega) (by omega) (by omega) (by omega)) ?_
 rintro _ w' ⟨rfl,hk'⟩;replace hw:=hw.call0 hk';clear hk';refine⟨_,rfl,?_⟩
 repeat (first|refine qac ?_|(refine qaa ?_;clear hw;intro p w hw)|(refine qae ?_;clear hw;intro w hw)|(refine qab ?_;clear hw;intro s w hw))
 refine qag rfl (qa2 (n:=o) (by omega) (by omega)) ?_
 rintro _ w' ⟨rfl,hk'⟩;replace hw:=hw.call0 hk';clear hk';refine⟨_,rfl,?_⟩
 repeat (first|refine qac ?_|(refine qaa ?_;clear hw;intro p w hw)|(refine qae ?_;clear hw;intro w hw)|(refine qab ?_;clear hw;intro s w hw))
 refine qag rfl (qc8 (a:=(o.natAbs:Int)) (b:=d) (by omega) (by omega) (by omega) (by omega)) ?_
 rintro _ w' ⟨rfl,hk'⟩;replace hw:=hw.call0 hk';clear hk';refine⟨_,rfl,?_⟩
 have hgg:Int.gcd (n.natAbs:Int) r=Int.gcd n r:=by simp [Int.gcd]
 have hhh:Int.gcd (o.natAbs:Int) d=Int.gcd o d:=by simp [Int.gcd]
 rw [hgg,hhh]
 obtain⟨g,hg⟩:∃ g:Int,g=(Int.gcd n r:Int):=⟨_,rfl⟩
 obtain⟨h,hh⟩:∃ h:Int,h=(Int.gcd o d:Int):=⟨_,rfl⟩
 rw [←hg,←hh] at hR
 rw [←hg,←hh]
 have hgp:0<g:=by have:=Int.gcd_pos_of_ne_zero_right n (show r≠0 by omega);omega
 have hhp:0<h:=by have:=Int.gcd_pos_of_ne_zero_right o (show d≠0 by omega);omega
 have q1:n.tdiv g=n / g:=Int.tdiv_eq_ediv_of_dvd (by rw [hg];exact Int.gcd_dvd_left ..)
 have q2:r.tdiv g=r / g:=Int.tdiv_eq_ediv_of_dvd (by rw [hg];exact Int.gcd_dvd_right ..)
 have q3:o.tdiv h=o / h:=Int.tdiv_eq_ediv_of_dvd (by rw [hh];exact Int.gcd_dvd_left ..)
 have q4:d.tdiv h=d / h:=Int.tdiv_eq_ediv_of_dvd (by rw [hh];exact Int.gcd_dvd_right ..)
 rw [←q1,←q2,←q3,←q4] at hR
 have k3:o.tdiv h*h=o:=by rw [q3];exact Int.ediv_mul_cancel (by rw [hh];exact Int.gcd_dvd_left ..)
 have k2:1≤r.tdiv g:=by rw [q2];exact Int.le_ediv_of_mul_le hgp (by have:=Int.le_of_dvd (show 0<r by omega) (show g ∣ r by rw [hg];exact Int.gcd_dvd_right ..);omega)
 have k4:1≤d.tdiv h:=by rw [q4];exact Int.le_ediv_of_mul_le hhp (by have:=Int.le_of_dvd (show 0<d by omega) (show h ∣ d by rw [hh];exact Int.gcd_dvd_right ..);omega)
 have b1:(n.tdiv g).natAbs≤n.natAbs:=by rw [q1];exact Int.natAbs_ediv_le_natAbs ..
 have b3:(o.tdiv h).natAbs≤o.natAbs:=by rw [q3];exact Int.natAbs_ediv_le_natAbs ..
 have b2:r.tdiv g≤r:=by rw [q2];exact Int.ediv_le_self _ (by omega)
 have b4:d.tdiv h≤d:=by rw [q4];exact Int.ediv_le_self _ (by omega)
 have k5:o.tdiv h≠0:=fun e=>by rw [e,Int.zero_mul] at k3;omega
 repeat (first|refine qac ?_|(refine qaa ?_;clear hw;intro p w hw)|(refine qad ?_;clear hw;intro w hw)|(refine qab ?_;clear hw;intro s w hw))
 generalize n.tdiv g=N at *
 generalize r.tdiv g=r2 at *
 generalize o.tdiv h=O at *
 generalize d.tdiv h=D at *
 refine qag rfl (qa2 (n:=N) (by omega) (by omega)) ?_
 rintro _ w' ⟨rfl,hk'⟩;replace hw:=hw.call0 hk';clear hk';refine⟨_,rfl,?_⟩
 repeat (first|refine qac ?_|(refine qaa ?_;clear hw;intro p w hw)|(refine qae ?_;clear hw;intro w hw)|(refine qab ?_;clear hw;intro s w hw))
 refine qag rfl (qa2 (n:=O) (by omega) (by omega)) ?_
 rintro _ w' ⟨rfl,hk'⟩;replace hw:=hw.call0 hk';clear hk';refine⟨_,rfl,?_⟩
 have t1:(1099511627776:Int).tdiv (O.natAbs:Int)=1099511627776 / (O.natAbs:Int):=Int.tdiv_eq_ediv_of_nonneg (by decide)
 have t2:(1048576:Int).tdiv r2=1048576 / r2:=Int.tdiv_eq_ediv_of_nonneg (by decide)
 rw [←t1,←t2] at hR
 have k0:0<(O.natAbs:Int):=by omega
 repeat (first|refine qac ?_|(refine qaa ?_;clear hw;intro p w hw)|(refine qae ?_;clear hw;intro w hw)|(refine qab ?_;clear hw;intro s w hw))
 refine go_if (fun hc => ?_) (fun hc => ?_)
 ·repeat (first|refine qac ?_|(refine qaa ?_;clear hw;intro p w hw)|(refine qad ?_;clear hw;intro w hw)|(refine qab ?_;clear hw;intro s w hw))
  refine qau (vs:=[]) (ls:=[]) rfl rfl rfl ?_
  repeat (first|refine qac ?_|(refine qaa ?_;clear hw;intro p w hw)|(refine qad ?_;clear hw;intro w hw)|(refine qab ?_;clear hw;intro s w hw))
  have e:R=(5,⟨0,0⟩):=by rw [hR];exact if_pos (by omega)
  subst e
  exact qar (vs:=[.int .i64 0,.int .i64 0]) rfl rfl rfl rfl (hw.boxR 0 rfl) ⟨rfl,hw.sel⟩
 rw [if_neg (by omega)] at hR
 have u1:(N.natAbs:Int)*(O.natAbs:Int)≤1099511627776:=by
  have:(N.natAbs:Int)≤1099511627776 / (O.natAbs:Int):=by rw [←t1];omega
  exact (Int.le_ediv_iff_mul_le k0).1 this
 have u2:D*r2≤1048576:=by
  have:D≤1048576 / r2:=by rw [←t2];omega
  exact (Int.le_ediv_iff_mul_le (by omega)).1 this
 have u3:0<D*r2:=Int.mul_pos (by omega) (by omega)
 have u4:((N*O).natAbs:Int)=(N.natAbs:Int)*(O.natAbs:Int):=by rw [Int.natAbs_mul];exact Int.natCast_mul ..
 have u5 : -1099511627776≤N*O∧N*O≤1099511627776:=by omega
 repeat (first|refine qac ?_|(refine qaa ?_;clear hw;intro p w hw)|(refine qad ?_;clear hw;intro w hw)|(refine qab ?_;clear hw;intro s w hw))
 subst hR
 exact qar (vs:=[.int .i64 (N*O),.int .i64 (D*r2)]) rfl rfl rfl rfl (hw.boxR 0 rfl) ⟨rfl,hw.sel⟩
end Go.Proofs.YtdadmnlenbdfbaaGreat
