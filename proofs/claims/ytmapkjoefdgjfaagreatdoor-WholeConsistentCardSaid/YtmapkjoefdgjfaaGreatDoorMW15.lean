/- Several texts. -/
import Derived.Test.YtmapkjoefdgjfaaGreatDoorMW14
set_option linter.unusedSimpArgs false
set_option linter.unusedVariables false
set_option maxRecDepth 8000
set_option maxHeartbeats 16000000
open List Nat
namespace Go.Proofs.YtmapkjoefdgjfaaGreatDoor
section
open Go.Sl Go
attribute [local irreducible] vc opsW opsD opV opW PureV ReadV Thn Blk
theorem qhM {t:Aa}(hg:Af t):∀ k,k<=t.ops.length->0<=gC t k/\gC t k<=inf
 | 0,_=>by simp[gC]
 | k+1,h=>by
  have ih:=qhM hg k om;have hc:=(hg.op k om).jc;rw[qdZ om];omega
theorem qm0 {t:Aa}(hg:Af t):Dh t (bO t):=by
 have h:=qhM hg t.ops.length (Nat.le_refl _);refine⟨hg,fun y=>?_,fun y=>?_⟩
 ·unfold bO dR;split
  ·exact Int.le_refl _
  ·exact h.1
 ·unfold bO dR;split
  ·decide
  ·exact h.2
end
section
open Go.Sl Go
theorem qps {t:Aa}{op:Nat}(ho:op<t.ops.length):dR t<=pJ t op:=by
 have key:∀ k,k<=t.ops.length->op<k->gC t k<=pJ t op:=by
  intro k
  induction k with
  | zero=>intro _ h;exact absurd h (not_lt_zero _)
  | succ k ih =>
   intro h1 h2;rw[qdZ om];by_cases e:op=k
   ·subst e;exact Int.min_le_right _ _
   ·exact Int.le_trans (Int.min_le_left _ _) (ih om om)
 exact key _ (Nat.le_refl _) ho
theorem qnR {t:Aa}(hg:Af t):Cons t (bO t):=fun s op _ ho _=>by
 have h1:=qps ho;have h2:=zZ hg ho;have h3:=(qm0 hg).nn (bm t s op);have h4:bO t s=0\/bO t s=dR t:=by
  unfold bO;split
  ·exact .inl rfl
  ·exact .inr rfl
 omega
end
section
open Go.Sl
attribute [local irreducible] vc opsW opsD opV opW PureV ReadV Thn Blk
theorem qcz {w0:World}{h:Value}{xs:List Item}{i j:Nat}{ii jj:Int}(hx:RS ao w0 h xs) (ei:ii=i) (ej:jj=j) (hi:i<xs.length) (hj:j<xs.length) :
  Calls Tryz.prog 333 #[h,.int .i64 ii,.int .i64 jj] w0 fun e w'=>e=.returned (.bool (eJ (hg ao.dflt xs i) (hg ao.dflt xs j)))/\Sat w0 w' []:=by
 subst ei ej;have hw:=Sat.start w0;refine bn (args:=[h,.int .i64 i,.int .i64 j]) mixed Tryz.func333 ?_;refine fi ?_;intro w hw;exact aW (v:=.bool (eJ (hg ao.dflt xs i) (hg ao.dflt xs j))) rfl rfl ⟨rfl,hw⟩
theorem qcA {w0 w:World}{Γ:List HP}{h:Value}{xs:List Item}{i j:Nat}{ii jj:Int}(ei:ii=i) (ej:jj=j) (hi:i<xs.length) (hj:j<xs.length) (hw:Sat w0 w (OS ao 239 h xs::Γ)) :
  Calls Tryz.prog 336 #[h,.int .i64 ii,.int .i64 jj] w fun e w'=>e=.returned (.tuple #[])/\Sat w0 w' (OS ao 239 h (sw ao.dflt xs i j)::Γ):=by
 subst ei ej;refine bn (args:=[h,.int .i64 i,.int .i64 j]) mixed Tryz.func336 ?_;refine fi ?_;intro w hw;refine zO (s:=h) (j:=i) (x':=hg ao.dflt xs j) rfl rfl rfl rfl hw inferInstance om ?_;clear hw;intro w hw;have hl:(xs.set i (hg ao.dflt xs j)).length=xs.length:=by simp
 refine ab ?_;refine zO (s:=h) (j:=j) (x':=hg ao.dflt xs i) rfl rfl rfl rfl hw inferInstance om ?_;clear hw;intro w hw;refine ab ?_;exact o7 rfl ⟨rfl,hw⟩
theorem qoM {w0 w:World}{Γ:List HP}{q:Addr}{h:Value}{xs:List Item}{v:Item}(hl:xs.length<1048576) (hw:Sat w0 w (OS ao 239 h xs::Ad q 236 [h]::Γ)) :
  Calls Tryz.prog 335 #[.pointer (some q),.iface 239 (.agg #[.int .i64 v.bf,.int .i64 v.state])] w fun e w'=>e=.returned (.tuple #[])/\∃ h',Sat w0 w' (OS ao 239 h' (xs++[v])::Ad q 236 [h']::Γ):=by
 refine bn (args:=[.pointer (some q),.iface 239 (.agg #[.int .i64 v.bf,.int .i64 v.state])]) mixed Tryz.func335 ?_;refine cK ?_;intro p w hw;refine fP (pl [0,1,2,3,4,5] (.chk 3::pl [6,7,8] [])) hw kr ?_;clear hw;intro w hw;refine ab ?_;refine jh ao (x1:=v) rfl rfl rfl (le_of_ble_eq_true rfl) (zero_lt_succ _) hw ?_;clear hw;intro s w hw;refine nV ?_;intro s w hw;exact o7 rfl ⟨rfl,_,hw.tail.tail⟩
theorem qrD {w0 w:World}{Γ:List HP}{q:Addr}{h:Value}{xs:List Item}(hl:0<xs.length) (hb:xs.length<=1048576) (hw:Sat w0 w (OS ao 239 h xs::Ad q 236 [h]::Γ)) :
  Calls Tryz.prog 334 #[.pointer (some q)] w fun e w'=>e=.returned (.iface 239 ((.agg #[.int .i64 (hg ao.dflt xs (xs.length-1)).bf,.int .i64 (hg ao.dflt xs (xs.length-1)).state])))/\∃ h',Sat w0 w' (OS ao 239 h' (xs.take (xs.length-1))::Ad q 236 [h']::Γ):=by
 refine bn (args:=[.pointer (some q)]) mixed Tryz.func334 ?_;refine db ?_;intro p w hw;have hk:(((xs.length:Nat):Int)-1).toNat=xs.length-1:=by omega
 replace hw:=Sat.sub (s:=h) (xs:=xs) hw inferInstance 0 (((xs.length:Nat):Int)-1).toNat om om;refine fi ?_;intro w hw;refine aW (v:=.iface 239 ((.agg #[.int .i64 (hg ao.dflt xs (((xs.length:Nat):Int)-1).toNat).bf,.int .i64 (hg ao.dflt xs (((xs.length:Nat):Int)-1).toNat).state]))) rfl rfl ⟨by rw[hk],ssub h ao.sz 0 (((xs.length:Nat):Int)-1).toNat,?_⟩;have hc:cut xs 0 (((xs.length:Nat):Int)-1).toNat=xs.take (xs.length-1):=by rw[hk];simp[cut]
 rw[hc]at hw;exact hw.tail
theorem qg6 {w0:World}{h:Value}{xs:List Item}(hx:RS ao w0 h xs) :
  Calls Tryz.prog 143 #[h] w0 fun e w'=>e=.returned (.int .i64 xs.length)/\Sat w0 w' []:=by
 have hw:=Sat.start w0;refine bn (args:=[h]) mixed Tryz.func143 ?_;refine ab ?_;exact aW (v:=.int .i64 xs.length) rfl rfl ⟨rfl,hw⟩
theorem qtH {w0 w:World}{Γ:List HP}{q:Addr}{h:Value}{xs:List Item}{j:Nat}{jj:Int}(ej:jj=j) (U:C4 ao.dflt eJ xs j) (hb:xs.length<=1048576) (hw:Sat w0 w (OS ao 239 h xs::Ad q 236 [h]::Γ)) :
  Calls Tryz.prog 166 #[.iface 234 (.pointer (some q)),.int .i64 jj] w fun e w'=>e=.returned (.tuple #[])/\∃ ys,Av ao.dflt eJ ys/\ys.Perm xs/\Sat w0 w' (OS ao 239 h ys::Ad q 236 [h]::Γ):=by
 subst ej;refine bn (args:=[.iface 234 (.pointer (some q)),.int .i64 j]) mixed Tryz.func166 ?_;refine ab ?_;refine dj [1,1,4,22] (G:=Nat) (H:=List Item) (fun j ys=>[(1,.int .i64 j)]) (fun j ys w=>C4 ao.dflt eJ ys j/\ys.Perm xs/\Sat w0 w (OS ao 239 h ys::Ad q 236 [h]::Γ)) (fun j ys=>j) j xs (fun _ _=>rfl) ⟨rfl,trivial⟩ ⟨U,.refl _,hw⟩ ?_;clear hw U;rintro σ j ys w ⟨U,hp,hw⟩;have bD:=U.inb;have nh:=hp.length_eq;refine ab ?_;simp only[qjI];by_cases ie:(j-1) / 2=j
 ·have jt:decide ((((j-1) / 2:Nat):Int)=(j:Int))=true:=decide_eq_true om
  simp only[jt];refine ab ?_;exact o7 rfl ⟨rfl,ys,U.done (.inl ie),hp,hw⟩
 ·have jt:decide ((((j-1) / 2:Nat):Int)=(j:Int))=false:=decide_eq_false om
  simp only[jt,rh];refine ab ?_;refine ln (u:=h) rfl rfl (hw.fx inferInstance rfl) (qcz (aM hw) rfl rfl bD (show (j-1) / 2<ys.length by omega)) ?_;rintro _ w' ⟨rfl,hk⟩;replace hw:=hw.bz hk;clear hk
  cases hL:eJ (hg ao.dflt ys j) (hg ao.dflt ys ((j-1) / 2)) with
  | false =>
   refine⟨_,rfl,?_⟩;refine ab ?_
   exact o7 rfl ⟨rfl,ys,U.done (.inr hL),hp,hw⟩
  | true =>
   refine⟨_,rfl,?_⟩;refine ab ?_;refine ln (u:=h) rfl rfl (hw.fx inferInstance rfl) (qcA rfl rfl (show (j-1) / 2<ys.length by omega) bD hw) ?_;clear hw;rintro _ w ⟨rfl,hw⟩;refine⟨_,rfl,?_⟩;refine ab ?_;exact⟨(j-1) / 2,_,⟨rfl,trivial⟩,aH,⟨U.step ie hL,(ur om bD).trans hp,hw⟩,by omega⟩
theorem qoN {w0 w:World}{Γ:List HP}{q:Addr}{h:Value}{xs:List Item}{n:Nat}{nn:Int}(en:nn=n) (D:CO ao.dflt eJ xs n 0) (hb:xs.length<=1048576) (hw:Sat w0 w (OS ao 239 h xs::Ad q 236 [h]::Γ)) :
  Calls Tryz.prog 167 #[.iface 234 (.pointer (some q)),.int .i64 0,.int .i64 nn] w fun e w'=>∃ b ys,e=.returned (.bool b)/\Cn ao.dflt eJ ys n/\ys.Perm xs/\(∀ k,n<=k->hg ao.dflt ys k=hg ao.dflt xs k)/\Sat w0 w' (OS ao 239 h ys::Ad q 236 [h]::Γ):=by
 subst en;refine bn (args:=[.iface 234 (.pointer (some q)),.int .i64 0,.int .i64 n]) mixed Tryz.func167 ?_;refine ab ?_;refine dj [7,10,12,44] (G:=Nat) (H:=List Item) (fun i ys=>[(7,.int .i64 i)]) (fun i ys w=>CO ao.dflt eJ ys n i/\i<=n/\ys.Perm xs/\(∀ k,n<=k->hg ao.dflt ys k=hg ao.dflt xs k)/\Sat w0 w (OS ao 239 h ys::Ad q 236 [h]::Γ)) (fun i ys=>n-i) 0 xs (fun _ _=>rfl) ⟨rfl,trivial⟩ ⟨D,zero_le _,.refl _,fun _ _=>rfl,hw⟩ ?_;clear hw D;rintro σ i ys w ⟨D,gY,hp,bS,hw⟩;have ow:=D.le;have nh:=hp.length_eq;refine ab ?_;refine ai ?_ ?_<;>intro h1
 ·refine ab ?_
  exact aW (v:=.bool _) rfl rfl ⟨_,ys,rfl,D.leaf om,hp,bS,hw⟩
 ·have tz:2*i+1<n:=by omega
  refine ab ?_;by_cases h2:2*i+2<n
  ·have jt:decide (2*(i:Int)+1+1<(n:Int))=true:=decide_eq_true om
   simp only[jt,ri];refine ab ?_;refine ln (u:=h) rfl rfl (hw.fx inferInstance rfl) (qcz (i:=2*i+2) (j:=2*i+1) (aM hw) om om om om) ?_;rintro _ w' ⟨rfl,hk⟩;replace hw:=hw.bz hk;clear hk
   cases hL:eJ (hg ao.dflt ys (2*i+2)) (hg ao.dflt ys (2*i+1)) with
   | true =>
    refine⟨_,rfl,?_⟩;refine me ?_;refine rp [9,9,34,34] (G:=Nat) (fun j=>[(9,.int .i64 j)]) (fun j w=>(j=2*i+1\/j=2*i+2)/\j<n/\(∀ c,0<c->c<n->(c-1) / 2=i->hle eJ (hg ao.dflt ys j) (hg ao.dflt ys c))/\Sat w0 w (OS ao 239 h ys::Ad q 236 [h]::Γ)) (fun _=>rfl) ?_ ?_
    ·refine ab ?_
     refine⟨2*i+2,⟨?_,trivial⟩,aH,.inr rfl,h2,fun c h0 h1 hc=>?_,hw⟩
     ·show Value.int .i64 (2*(i:Int)+1+1)=_
      congr 1
     ·have:c=2*i+1\/c=2*i+2:=by omega
      rcases this with rfl|rfl
      ·exact qmw hL
      ·exact yi _
    ·clear hw
     rintro σ1 j w ⟨hj,ky,cV,hw⟩;refine ab ?_;refine ln (u:=h) rfl rfl (hw.fx inferInstance rfl) (qcz (aM hw) rfl rfl (show j<ys.length by omega) (show i<ys.length by omega)) ?_;rintro _ w' ⟨rfl,hk⟩;replace hw:=hw.bz hk;clear hk
     cases hL:eJ (hg ao.dflt ys j) (hg ao.dflt ys i) with
     | false =>
      refine⟨_,rfl,?_⟩;refine ab ?_
      exact aW (v:=.bool _) rfl rfl ⟨_,ys,rfl,D.done cV hL,hp,bS,hw⟩
     | true =>
      refine⟨_,rfl,?_⟩;refine ab ?_;refine ln (u:=h) rfl rfl (hw.fx inferInstance rfl) (qcA rfl rfl (show i<ys.length by omega) (show j<ys.length by omega) hw) ?_;clear hw;rintro _ w ⟨rfl,hw⟩;refine⟨_,rfl,?_⟩;refine ab ?_;refine⟨j,_,⟨rfl,trivial⟩,aH,⟨D.step hj ky cV hL,by omega,(ur om om).trans hp,fun k hk=>?_,hw⟩,by omega⟩;rw[nM om om,if_neg om,if_neg om]
      exact bS k hk
   | false =>
    refine⟨_,rfl,?_⟩;refine me ?_;refine rp [9,9,34,34] (G:=Nat) (fun j=>[(9,.int .i64 j)]) (fun j w=>(j=2*i+1\/j=2*i+2)/\j<n/\(∀ c,0<c->c<n->(c-1) / 2=i->hle eJ (hg ao.dflt ys j) (hg ao.dflt ys c))/\Sat w0 w (OS ao 239 h ys::Ad q 236 [h]::Γ)) (fun _=>rfl) ?_ ?_
    ·refine ab ?_
     refine⟨2*i+1,⟨?_,trivial⟩,aH,.inl rfl,tz,fun c h0 h1 hc=>?_,hw⟩
     ·show Value.int .i64 (2*(i:Int)+1)=_
      congr 1
     ·have:c=2*i+1\/c=2*i+2:=by omega
      rcases this with rfl|rfl
      ·exact yi _
      ·exact hL
    ·clear hw
     rintro σ1 j w ⟨hj,ky,cV,hw⟩;refine ab ?_;refine ln (u:=h) rfl rfl (hw.fx inferInstance rfl) (qcz (aM hw) rfl rfl (show j<ys.length by omega) (show i<ys.length by omega)) ?_;rintro _ w' ⟨rfl,hk⟩;replace hw:=hw.bz hk;clear hk
     cases hL:eJ (hg ao.dflt ys j) (hg ao.dflt ys i) with
     | false =>
      refine⟨_,rfl,?_⟩;refine ab ?_
      exact aW (v:=.bool _) rfl rfl ⟨_,ys,rfl,D.done cV hL,hp,bS,hw⟩
     | true =>
      refine⟨_,rfl,?_⟩;refine ab ?_;refine ln (u:=h) rfl rfl (hw.fx inferInstance rfl) (qcA rfl rfl (show i<ys.length by omega) (show j<ys.length by omega) hw) ?_;clear hw;rintro _ w ⟨rfl,hw⟩;refine⟨_,rfl,?_⟩;refine ab ?_;refine⟨j,_,⟨rfl,trivial⟩,aH,⟨D.step hj ky cV hL,by omega,(ur om om).trans hp,fun k hk=>?_,hw⟩,by omega⟩;rw[nM om om,if_neg om,if_neg om];exact bS k hk
  ·have jt:decide (2*(i:Int)+1+1<(n:Int))=false:=decide_eq_false om
   simp only[jt];refine me ?_;refine rp [9,9,34,34] (G:=Nat) (fun j=>[(9,.int .i64 j)]) (fun j w=>(j=2*i+1\/j=2*i+2)/\j<n/\(∀ c,0<c->c<n->(c-1) / 2=i->hle eJ (hg ao.dflt ys j) (hg ao.dflt ys c))/\Sat w0 w (OS ao 239 h ys::Ad q 236 [h]::Γ)) (fun _=>rfl) ?_ ?_
   ·refine ab ?_
    refine⟨2*i+1,⟨?_,trivial⟩,aH,.inl rfl,tz,fun c h0 h1 hc=>?_,hw⟩
    ·show Value.int .i64 (2*(i:Int)+1)=_
     congr 1
    ·have:c=2*i+1:=by omega
     subst this;exact yi _
   ·clear hw
    rintro σ1 j w ⟨hj,ky,cV,hw⟩;refine ab ?_;refine ln (u:=h) rfl rfl (hw.fx inferInstance rfl) (qcz (aM hw) rfl rfl (show j<ys.length by omega) (show i<ys.length by omega)) ?_;rintro _ w' ⟨rfl,hk⟩;replace hw:=hw.bz hk;clear hk
    cases hL:eJ (hg ao.dflt ys j) (hg ao.dflt ys i) with
    | false =>
     refine⟨_,rfl,?_⟩;refine ab ?_
     exact aW (v:=.bool _) rfl rfl ⟨_,ys,rfl,D.done cV hL,hp,bS,hw⟩
    | true =>
     refine⟨_,rfl,?_⟩;refine ab ?_;refine ln (u:=h) rfl rfl (hw.fx inferInstance rfl) (qcA rfl rfl (show i<ys.length by omega) (show j<ys.length by omega) hw) ?_;clear hw;rintro _ w ⟨rfl,hw⟩;refine⟨_,rfl,?_⟩;refine ab ?_;refine⟨j,_,⟨rfl,trivial⟩,aH,⟨D.step hj ky cV hL,by omega,(ur om om).trans hp,fun k hk=>?_,hw⟩,by omega⟩;rw[nM om om,if_neg om,if_neg om];exact bS k hk
theorem qdL {w0 w:World}{Γ:List HP}{q:Addr}{h:Value}{xs:List Item}{v:Item}(H:Av ao.dflt eJ xs) (hb:xs.length<1048576) (hw:Sat w0 w (OS ao 239 h xs::Ad q 236 [h]::Γ)) :
  Calls Tryz.prog 142 #[.iface 234 (.pointer (some q)),.iface 239 (.agg #[.int .i64 v.bf,.int .i64 v.state])] w fun e w'=>e=.returned (.tuple #[])/\∃ h' ys,Av ao.dflt eJ ys/\ys.Perm (v::xs)/\Sat w0 w' (OS ao 239 h' ys::Ad q 236 [h']::Γ):=by
 refine bn (args:=[.iface 234 (.pointer (some q)),.iface 239 (.agg #[.int .i64 v.bf,.int .i64 v.state])]) mixed Tryz.func142 ?_;refine ab ?_;refine qdy rfl rfl (qoM (v:=v) om hw) ?_;clear hw;rintro _ w ⟨rfl,h',hw⟩;refine⟨_,rfl,?_⟩;refine ab ?_;refine ln (u:=h') rfl rfl (hw.fx inferInstance rfl) (qg6 (aM hw)) ?_;rintro _ w' ⟨rfl,hk⟩;replace hw:=hw.bz hk;clear hk;refine⟨_,rfl,?_⟩;have hl:(xs++[v]).length=xs.length+1:=by simp
 refine ab ?_;refine aJ rfl (qtH (j:=xs.length) (by rw[hl];omega) (qmx H) om hw) ?_;clear hw;rintro _ w ⟨rfl,ys,h1,h2,hw⟩;refine⟨_,rfl,?_⟩;refine ab ?_;exact o7 rfl ⟨rfl,h',ys,h1,h2.trans (perm_append_comm (l₁:=xs) (l₂:=[v])),hw⟩
theorem qjm {w0 w:World}{Γ:List HP}{q:Addr}{h:Value}{xs:List Item}(H:Av ao.dflt eJ xs) (hl:0<xs.length) (hb:xs.length<=1048576) (hw:Sat w0 w (OS ao 239 h xs::Ad q 236 [h]::Γ)) :
  Calls Tryz.prog 144 #[.iface 234 (.pointer (some q))] w fun e w'=>∃ v h' ys,e=.returned (.iface 239 (.agg #[.int .i64 v.bf,.int .i64 v.state]))/\Av ao.dflt eJ ys/\xs.Perm (v::ys)/\(∀ x∈xs,hle eJ v x)/\Sat w0 w' (OS ao 239 h' ys::Ad q 236 [h']::Γ):=by
 refine bn (args:=[.iface 234 (.pointer (some q))]) mixed Tryz.func144 ?_;refine ab ?_;refine ln (u:=h) rfl rfl (hw.fx inferInstance rfl) (qg6 (aM hw)) ?_;rintro _ w' ⟨rfl,hk⟩;replace hw:=hw.bz hk;clear hk;refine⟨_,rfl,?_⟩;refine ab ?_;refine ln (u:=h) rfl rfl (hw.fx inferInstance rfl) (qcA (i:=0) (j:=xs.length-1) rfl om hl om hw) ?_;clear hw;rintro _ w ⟨rfl,hw⟩;refine⟨_,rfl,?_⟩;refine ab ?_;refine aJ rfl (qoN (n:=xs.length-1) om (qph H hl) (by rw[yj];exact hb) hw) ?_;clear hw;rintro _ w ⟨b,ys,rfl,h1,h2,h3,hw⟩;have hp:=h2.trans (ur hl (show xs.length-1<xs.length by omega));have nh:=hp.length_eq;refine⟨_,rfl,?_⟩;refine ab ?_;refine qdy rfl rfl (qrD om om hw) ?_;clear hw;rintro _ w ⟨rfl,h',hw⟩;refine⟨_,rfl,?_⟩;refine ab ?_;have lE:hg ao.dflt ys (xs.length-1)=hg ao.dflt xs 0:=by
  rw[h3 _ (Nat.le_refl _),nM hl om,if_pos rfl]
 obtain⟨hh,uj⟩:=qmz hl hp h1 lE;rw[nh]at hw;refine aW (v:=.iface 239 ((.agg #[.int .i64 (hg ao.dflt ys (ys.length-1)).bf,.int .i64 (hg ao.dflt ys (ys.length-1)).state]))) rfl rfl ⟨hg ao.dflt xs 0,h',_,by rw[nh,lE],hh,uj,fun x hx=>qmy H hx,hw⟩
end
section
open Go.Sl Go
attribute [local irreducible] vc opsW opsD opV opW PureV ReadV Thn Blk
instance xJ:Bn ax:=⟨fun x v hv=>by simp only[ax,mem_cons,not_mem_nil,or_false]at hv;rcases hv with rfl|rfl|rfl<;>rfl⟩
def fK (E:List Au) (n:Nat):List (List Au):=(List.range n).map fun (u:Nat)=>bucket E (u:Int)
theorem qnC (E:List Au) (n:Nat):(fK E n).length=n:=by simp[fK]
theorem qtx (n:Nat):fK [] n=replicate n []:=by
 apply ext_getElem (by simp[fK]);intro i h1 h2;simp[fK,bucket]
theorem qlZ {E:List Au}{n u:Nat}(h:u<n):(fK E n).getD u []=bucket E (u:Int):=by simp[fK,List.getD,h]
theorem qrp {E:List Au}{n:Nat}{e:Au}(h0:0<=e.dst) (h:e.dst<n):(fK E n).set e.dst.toNat ((fK E n).getD e.dst.toNat []++[e])=fK (E++[e]) n:=by
 rw[qlZ om];apply ext_getElem (by simp[fK]);intro i h1 h2;rw[getElem_set];have hi:i<n:=by simpa [fK] using h2
 have e1:(fK (E++[e]) n)[i]=bucket (E++[e]) (i:Int):=by simp[fK]
 rw[e1];split
 ·rename_i he
  subst he;rw[Int.toNat_of_nonneg h0];simp[bucket]
 ·rename_i he
  have:¬e.dst=(i:Int):=by omega
  simp[fK,bucket,this]
theorem qh1 (E:List Au) (u:Int):(bucket E u).length<=E.length:=length_filter_le _ _
theorem qhe {w0:World}{cv ev gv kv:Value}{S:Ak}{cs:List Int}(h:Aw w0 cv ev gv S) (hk:RS aa w0 kv cs) (qz2:0<=S.st) (qz3:S.st<=4096) (kL:(S.goals.length:Int)=S.st) (la:S.ak.length<=65536) (hE:BO S.ak cs S.st.toNat) :
  Calls Tryz.prog 110 #[bN S cv ev gv,kv] w0 fun e w'=>∃ s D,e=.returned s/\As S.ak cs (fun i=>S.goals.getD i.toNat ah.dflt=true) S.st.toNat D/\Sat w0 w' [OS aa 3 s D]:=by
 obtain⟨hc,he,hg⟩:=h;have le:=he.bo;have lk:=hk.bo;have hw:=Sat.start w0;refine bn (args:=[.agg #[.int .i64 S.st,.int .i64 S.aY,cv,ev,gv],kv]) mixed Tryz.func110 ?_
 repeat (first|refine bV ?_|(refine dK ?_;clear hw;intro p w hw)|(refine cB ?_;clear hw;intro s w hw))
 obtain⟨px,hpx⟩:∃ px,px=p:=⟨p,rfl⟩
 subst hpx;obtain⟨tv,htv⟩:∃ tv,tv=s:=⟨s,rfl⟩
 subst htv;have hw:=hw.fu (T:=ax) (e:=190) S.st.toNat;rw[<-qtx]at hw;refine dj [7,7,23,39] (G:=Nat) (H:=List Value) (fun k _=>[(23,.int .i64 k)]) (fun k ts w=>k<=S.ak.length/\ts.length=S.st.toNat/\Sat w0 w [Ab ax 190 ts (fK (S.ak.take k) S.st.toNat),OS al 139 tv ts,Ad px 142 [.int .i64 S.st,.int .i64 S.aY,cv,ev,gv]]) (fun k _=>S.ak.length-k) 0 _ (fun _ _=>rfl) ⟨rfl,trivial⟩ ⟨zero_le _,by simp,hw⟩ ?_;clear hw;rintro σ k ts w ⟨j7,r5,hw⟩;refine ab ?_;refine ai ?_ ?_<;>intro h1
 ·have aK:k<S.ak.length:=by omega
  obtain⟨e1,e2,e3,e4⟩:=hE.getD aK;have iH:=qnC (S.ak.take k) S.st.toNat;refine cK ?_;intro p w hw;obtain⟨pe,qZ⟩:∃ pe,pe=p:=⟨p,rfl⟩
  subst qZ;have hi:(S.ak.getD k ax.dflt).dst.toNat<(fK (S.ak.take k) S.st.toNat).length:=by omega
  replace hw:=hw.swap.fb hi;have iI:((fK (S.ak.take k) S.st.toNat).getD (S.ak.getD k ax.dflt).dst.toNat []).length<=65536:=by
   rw[qlZ om];have:=qh1 (S.ak.take k) ((S.ak.getD k ax.dflt).dst.toNat:Int);simp only[length_take]at this;omega
  refine fP (pl [0,1,2,3,4,5,6,7,8,9] (.chk 2::.chk 5::.chk 7::pl [10] (.chk 2::pl [11,12] []))) hw kr ?_;clear hw;intro w hw;refine ab ?_;refine jh ax (x1:=S.ak.getD k ax.dflt) rfl rfl rfl (le_of_ble_eq_true rfl) (zero_lt_succ _) hw ?_;clear hw;intro s w hw;refine kq ?_;intro s w hw;replace hw:=Sat.lS hi om hw.tail;replace hw:=hw.swap.tail;rw[qrp e2.1 om,<-dJ ax.dflt aK]at hw;exact⟨k+1,_,⟨rfl,trivial⟩,aH,⟨by omega,by simpa using r5,hw⟩,by omega⟩
 have cH:k=S.ak.length:=by omega
 subst cH;rw[take_length]at hw;have iH:=qnC S.ak S.st.toNat;have iI:(replicate S.st.toNat (0:Int)).length=S.st.toNat:=length_replicate;refine kq ?_;intro s w hw;obtain⟨ov,uL⟩:∃ ov,ov=s:=⟨s,rfl⟩
 subst uL;refine xO ao hw ?_;clear hw;intro s w hw;refine db ?_;intro p w hw;obtain⟨pq,hpq⟩:∃ pq,pq=p:=⟨p,rfl⟩
 subst hpq;have hsc:s.cells.toList=[s]:=((hw.rs 1 rfl).dc)
 rw[hsc]at hw;rw[<-qlA (fun i=>S.goals.getD i.toNat ah.dflt=true)]at hw;have bb:Sat w0 w [OS ao 239 s [],Ad pq 236 [s],OS aa 3 ov (cE (fun i=>S.goals.getD i.toNat ah.dflt=true) S.st.toNat 0),Ab ax 190 ts (fK S.ak S.st.toNat),OS al 139 tv ts,Ad px 142 [.int .i64 S.st,.int .i64 S.aY,cv,ev,gv]]:=hw.swap;clear hw;have hlen:∀ k,(cE (fun i=>S.goals.getD i.toNat ah.dflt=true) S.st.toNat k).length=S.st.toNat:=fun k=>qob _ _ k;refine mB [10,11,48,66] (G:=Nat) (H:=Value) (I:=List Item) (fun k _ _=>[(48,.int .i64 k)]) (fun k hv xs w=>k<=S.st.toNat/\Av ao.dflt eJ xs/\xs.length<=k/\xs.Nodup/\(∀ x,x∈xs↔∃ i:Nat,i<k/\(fun i=>S.goals.getD i.toNat ah.dflt=true) (i:Int)/\x=⟨0,i⟩)/\Sat w0 w [OS ao 239 hv xs,Ad pq 236 [hv],OS aa 3 ov (cE (fun i=>S.goals.getD i.toNat ah.dflt=true) S.st.toNat k),Ab ax 190 ts (fK S.ak S.st.toNat),OS al 139 tv ts,Ad px 142 [.int .i64 S.st,.int .i64 S.aY,cv,ev,gv]]) (fun k _ _=>S.st.toNat-k) 0 s [] (fun _ _ _=>rfl) ⟨rfl,trivial⟩ ⟨zero_le _,qnO,Nat.le_refl _,nodup_nil,(fun x=>by simp),bb⟩ ?_;clear bb;rintro σ1 k hv xs w ⟨gW,hH,ku,fe,ed,hw⟩;have hlk:=hlen k;have iL:((cE (fun i=>S.goals.getD i.toNat ah.dflt=true) S.st.toNat k).set k 1125899906842624).length=S.st.toNat:=by rw[length_set,hlk]
 refine ab ?_;refine ai ?_ ?_<;>intro h2
 ·have aK:k<S.st.toNat:=by omega
  refine fi ?_;intro w hw;refine ai ?_ ?_<;>intro h3
  ·refine fi ?_;intro w hw
   rw[qlB (G:=(fun i=>S.goals.getD i.toNat ah.dflt=true)) (k:=k) (by simp only[Int.toNat_natCast];exact h3)]at hw;refine aJ rfl (qdL (v:=⟨0,k⟩) hH om hw) ?_;clear hw;rintro _ w ⟨rfl,iD,ys,hH',hp,hw⟩;refine⟨_,rfl,?_⟩;refine ab ?_;have fZ:(⟨0,k⟩:Item)∉xs:=fun hx=>by
    obtain⟨i,hi,_,nD⟩:=(ed _).1 hx;simp only[Item.mk.injEq,true_and]at nD;omega
   refine⟨k+1,iD,ys,⟨rfl,trivial⟩,aH,⟨by omega,hH',by rw[hp.length_eq];simp;omega,hp.nodup_iff.2 (nodup_cons.2 ⟨fZ,fe⟩),fun x=>?_,hw⟩,by omega⟩;rw[hp.mem_iff,mem_cons,ed];constructor
   ·rintro (rfl|⟨i,hi,pS,mn⟩)
    ·exact⟨k,by omega,by simp only[Int.toNat_natCast];exact h3,rfl⟩
    ·exact⟨i,by omega,pS,mn⟩
   ·rintro⟨i,hi,pS,mn⟩
    by_cases hik:i=k
    ·subst hik;exact .inl mn
    ·exact .inr ⟨i,by omega,pS,mn⟩
  ·refine ab ?_
   rw[qqb (G:=(fun i=>S.goals.getD i.toNat ah.dflt=true)) (k:=k) (by simp only[Int.toNat_natCast];rw[h3];decide)]at hw;refine⟨k+1,hv,xs,⟨rfl,trivial⟩,aH,⟨by omega,hH,by omega,fe,fun x=>?_,hw⟩,by omega⟩;rw[ed];constructor
   ·rintro⟨i,hi,pS,mn⟩;exact⟨i,by omega,pS,mn⟩
   ·rintro⟨i,hi,pS,mn⟩
    by_cases hik:i=k
    ·subst hik;simp only[Int.toNat_natCast]at pS;rw[h3]at pS;cases pS
    ·exact⟨i,by omega,pS,mn⟩
 have cH:k=S.st.toNat:=by omega
 subst cH;rw[qoc]at hw;have hDJ:=DJ.start S.ak cs (fun i=>S.goals.getD i.toNat ah.dflt=true) S.st.toNat ed fe;have hrE:=qtz S.ak [];clear hlk iL hlen iI;refine ab ?_;refine cd [12,13,15,16,67,125] (G:=List Int × Value × List Item × List Int × Int) (fun _=>[]) (fun x w=>Df S.ak cs (fun i=>S.goals.getD i.toNat ah.dflt=true) S.st.toNat x.1 x.2.2.1 x.2.2.2.1 x.2.2.2.2/\Av ao.dflt eJ x.2.2.1/\x.2.2.1.length+mP S.ak x.2.2.2.1<=4096+65536/\Sat w0 w [OS ao 239 x.2.1 x.2.2.1,Ad pq 236 [x.2.1],OS aa 3 ov x.1,Ab ax 190 ts (fK S.ak S.st.toNat),OS al 139 tv ts,Ad px 142 [.int .i64 S.st,.int .i64 S.aY,cv,ev,gv]]) (fun x=>x.2.2.1.length+mP S.ak x.2.2.2.1) (_,hv,xs,[],0) (fun _=>rfl) trivial ⟨hDJ,hH,by simp only;omega,hw⟩ ?_;clear hw hDJ hrE hH ed fe ku;rintro σ2 ⟨D,hv,xs,Sn,m⟩ w ⟨hD,hH,hb,hw⟩;simp only at hD hH hb hw;refine ab ?_;refine aJ rfl (qg6 (h:=hv) (aM hw)) ?_;rintro _ w' ⟨rfl,aj⟩;refine aC ?_;clear aj hw;intro hw;refine ab ?_;refine ai ?_ ?_<;>intro h4
 ·have mI:0<xs.length:=by omega
  refine ab ?_;refine aJ rfl (qjm hH mI om hw) ?_;clear hw;rintro _ w ⟨x,iD,ys,rfl,hH',hp,cV,hw⟩;have iP:=hp.length_eq;simp only[length_cons]at iP;refine⟨_,rfl,?_⟩;refine db ?_;intro p w hw;obtain⟨pi,pH⟩:∃ pi,pi=p:=⟨p,rfl⟩
  subst pH;have hD1:Df S.ak cs (fun i=>S.goals.getD i.toNat ah.dflt=true) S.st.toNat D (x::ys) Sn m:=hD.perm hp.symm;obtain⟨f1,f2,f3,f4,f5⟩:=hD1.kZ x (by simp);have oO:=hD.inv.len;have hxr:=hD.inv.cC x.state.toNat om;rw[Int.toNat_of_nonneg f1.1]at hxr;have sG:=hD.m0;refine ab ?_;refine ai ?_ ?_<;>intro h5
  ·refine ab ?_
   refine⟨(D,iD,ys,Sn,m),trivial,aH,⟨hD1.skip h5,hH',by simp only;omega,hw.aT⟩,by simp only;omega⟩
  ·have rn:¬dg D x.state<x.bf:=by simp only[dg];omega
   obtain⟨zx,l7,oM,_,hxi⟩:=hD1.take rn (fun y hy=>by
    have:=cV y (hp.mem_iff.2 (by simp[hy]));simp only[hle,eJ,decide_eq_false_iff_not]at this
    omega)
   have hrc:=qh2 l7 S.ak;have qz4:x.bf<1125899906842624:=hxi;have qz5:=qh1 S.ak x.state;have hbk:(fK S.ak S.st.toNat).getD x.state.toNat []=bucket S.ak x.state:=by
    rw[qlZ om,Int.toNat_of_nonneg f1.1]
   have dp:=(hw.focus 4 rfl).row (i:=x.state.toNat) om;rw[hbk]at dp;have qzJ:=dp;refine ab ?_;refine qiv [15,16,93,125] (G:=Nat) (H:=List Int) (I:=Value) (M:=List Item) (fun k _ _ _=>[(93,.int .i64 k)]) (fun k D' pM xs2 w=>k<=(bucket S.ak x.state).length/\DJ S.ak cs (fun i=>S.goals.getD i.toNat ah.dflt=true) S.st.toNat D' xs2 (x.state::Sn) x.bf (fun e=>e.dst∈Sn\/∃ i,i<k/\(bucket S.ak x.state).getD i ax.dflt=e)/\dg D' x.state=x.bf/\Av ao.dflt eJ xs2/\xs2.length<=ys.length+k/\Sat w0 w [OS ao 239 pM xs2,Ad pq 236 [pM],Ad pi 239 [.int .i64 x.bf,.int .i64 x.state],OS aa 3 ov D',Ab ax 190 ts (fK S.ak S.st.toNat),OS al 139 tv ts,Ad px 142 [.int .i64 S.st,.int .i64 S.aY,cv,ev,gv]]) (fun k _ _ _=>(bucket S.ak x.state).length-k) 0 D iD ys (fun _ _ _ _=>rfl) ⟨rfl,trivial⟩ ⟨zero_le _,?_,oM,hH',by omega,hw.aT⟩ ?_
   ·refine⟨zx.inv,zx.kZ,zx.nd,zx.set,zx.act,fun e he hm hd=>zx.wm e he hm ?_,zx.m0⟩
    rcases hd with hd|⟨i,hi,_⟩
    ·exact hd
    ·exact absurd hi (not_lt_zero _)
   clear hw dp;rintro σ3 k D' pM xs2 w ⟨w5,hD',ua,hH2,nW,hw⟩;have dp:=(hw.focus 4 rfl).row (i:=x.state.toNat) om;rw[hbk]at dp;have qz6:=hD'.inv.len;refine ab ?_;refine ai ?_ ?_<;>intro h6
   ·have aK:k<(bucket S.ak x.state).length:=by omega
    obtain⟨qx,hmd⟩:=qh3.1 (bY ax.dflt aK);have e1:=hE.src _ qx;have e3:=hE.bI _ qx;have e4:=hE.fB qx;simp only[fB]at e4;have r1:=hD'.inv.cC ((bucket S.ak x.state).getD k ax.dflt).src.toNat om;rw[Int.toNat_of_nonneg e1.1]at r1;simp only[dg]at r1;have fE:∀ {c D xs},DJ S.ak cs (fun i=>S.goals.getD i.toNat ah.dflt=true) S.st.toNat D xs (x.state::Sn) x.bf (fun e=>(e.dst∈Sn\/∃ i,i<k/\(bucket S.ak x.state).getD i ax.dflt=e)\/e=c)->c=(bucket S.ak x.state).getD k ax.dflt->DJ S.ak cs (fun i=>S.goals.getD i.toNat ah.dflt=true) S.st.toNat D xs (x.state::Sn) x.bf (fun e=>e.dst∈Sn\/∃ i,i<k+1/\(bucket S.ak x.state).getD i ax.dflt=e):=by
     intro c D xs hh hc;refine⟨hh.inv,hh.kZ,hh.nd,hh.set,hh.act,fun e he hm hd=>hh.wm e he hm ?_,hh.m0⟩;rcases hd with hd|⟨i,hi,iJ⟩
     ·exact .inl (.inl hd)
     ·by_cases hik:i=k
      ·subst hik;exact .inr (by rw[hc,iJ])
      ·exact .inl (.inr ⟨i,by omega,iJ⟩)
    refine db ?_;intro p w hw;refine ai ?_ ?_<;>intro h7
    ·have hrx:=hD'.oP hE qx (by rw[hmd];simp) (by rw[hmd];exact ua) hxi (by simp only[dg,fB];exact h7)
     simp only[fB]at hrx;refine fi ?_;intro w hw;refine aJ rfl (qdL (v:=⟨x.bf+cs.getD ((bucket S.ak x.state).getD k ax.dflt).bI.toNat aa.dflt,((bucket S.ak x.state).getD k ax.dflt).src⟩) hH2 om hw.tail) ?_;clear hw;rintro _ w ⟨rfl,hv3,zs,hH3,hp3,hw⟩;refine⟨_,rfl,?_⟩;refine ab ?_;have cY:x.state≠((bucket S.ak x.state).getD k ax.dflt).src:=fun he=>by
      have h8:=ua;rw[he]at h8;simp only[dg]at h8;omega
     refine⟨k+1,_,hv3,zs,⟨rfl,trivial⟩,aH,⟨by omega,(fE hrx rfl).perm hp3,?_,hH3,by rw[hp3.length_eq];simp;omega,hw.aT⟩,by omega⟩;rw[qhK f1.1 e1.1 om,if_neg cY];exact ua
    ·refine ab ?_
     refine⟨k+1,D',pM,xs2,⟨rfl,trivial⟩,aH,⟨by omega,fE (hD'.keep (e:=(bucket S.ak x.state).getD k ax.dflt) fun bD=>?_) rfl,ua,hH2,by omega,hw.aT⟩,by omega⟩;rw[hmd,ua];simp only[dg,fB];omega
   ·refine ab ?_
    refine⟨(D',pM,xs2,x.state::Sn,x.bf),trivial,aH,⟨hD'.close fun e he hm=>?_,hH2,by simp only;omega,hw.aT⟩,by simp only;omega⟩;rcases mem_cons.1 hm with hm|hm
    ·obtain⟨i,hi,iJ⟩:=getElem_of_mem (qh3.2 ⟨he,hm⟩)
     exact .inr ⟨i,by omega,by rw[getD_at hi];exact iJ⟩
    ·exact .inl hm
 ·have sK:xs=[]:=eq_nil_of_length_eq_zero om
  subst sK;refine ab ?_;exact aW (v:=ov) rfl rfl ⟨ov,D,rfl,hD.fin hE,hw.aT⟩
structure Ci where
 vars:List Int
 pat:List Int
 sys:Ak
 mS:List Int
def dbC (X:Ci) (vv pv cv ev gv tv:Value):List Value:=[vv,pv,.int .i64 X.sys.st,.int .i64 X.sys.aY,cv,ev,gv,tv]
def dbL (p:Addr) (X:Ci) (vv pv cv ev gv tv:Value):List HP:=[Ad p 196 (dbC X vv pv cv ev gv tv),OS aa 3 vv X.vars,OS aa 3 pv X.pat,OS aa 3 cv X.sys.au,OS ax 190 ev X.sys.ak,OS ah 4 gv X.sys.goals,OS aa 3 tv X.mS]
@[irreducible] def Cj (p:Addr) (X:Ci):HP:=fun h=>∃ vv pv cv ev gv tv,Ap (dbL p X vv pv cv ev gv tv) h
theorem rk {w0 w:World}{Γ:List HP}{p:Addr}{X:Ci}(hw:Sat w0 w (Cj p X::Γ)):∃ vv pv cv ev gv tv,Sat w0 w (dbL p X vv pv cv ev gv tv++Γ):=by
 unfold Cj at hw;obtain⟨h1,h2,d,s1,s2,⟨vv,pv,cv,ev,gv,tv,a⟩,g⟩:=hw.sat;exact⟨vv,pv,cv,ev,gv,tv,hw.below,Ap.app _ d s1 s2 a g⟩
theorem rm {w0 w:World}{Γ:List HP}{p:Addr}{X:Ci}{vv pv cv ev gv tv:Value}(hw:Sat w0 w (dbL p X vv pv cv ev gv tv++Γ)):Sat w0 w (Cj p X::Γ):=by
 unfold Cj;obtain⟨h1,h2,d,s1,s2,a,g⟩:=Ap.split _ hw.sat;exact⟨hw.below,h1,h2,d,s1,s2,⟨vv,pv,cv,ev,gv,tv,a⟩,g⟩
def CN (w:World) (p:Addr) (X:Ci):Prop:=∃ vv pv cv ev gv tv,AD w p (dbC X vv pv cv ev gv tv)/\RS aa w vv X.vars/\RS aa w pv X.pat/\RS aa w cv X.sys.au/\RS ax w ev X.sys.ak/\RS ah w gv X.sys.goals/\RS aa w tv X.mS
theorem CN.at {w0 w:World}{Γ:List HP}{p:Addr}{X:Ci}(h:CN w0 p X) (hw:Sat w0 w Γ):CN w p X:=by
 obtain⟨vv,pv,cv,ev,gv,tv,h0,h1,h2,h3,h4,h5,h6⟩:=h;exact⟨vv,pv,cv,ev,gv,tv,h0.at hw,h1.at hw,h2.at hw,h3.at hw,h4.at hw,h5.at hw,h6.at hw⟩
theorem mT {w0 w:World}{Γ:List HP}{p:Addr}{X:Ci}(hw:Sat w0 w Γ) (i:Nat) (hi:Γ[i]? = some (Cj p X)):CN w p X:=by
 obtain⟨vv,pv,cv,ev,gv,tv,h⟩:=rk (hw.focus i hi);exact⟨vv,pv,cv,ev,gv,tv,h.mR 0 rfl,h.rs 1 rfl,h.rs 2 rfl,h.rs 3 rfl,h.rs 4 rfl,h.rs 5 rfl,h.rs 6 rfl⟩
class Dq (Γ:List HP) (p:Addr) (X:outParam Ci):Prop where
 ok:∃ i:Nat,Γ[i]? = some (Cj p X)
instance (priority:=high) db_here {p:Addr}{X:Ci}{Γ:List HP}:Dq (Cj p X::Γ) p X:=⟨0,rfl⟩
theorem qx1 {w0 w:World}{Γ:List HP}{p:Addr}{X:Ci} [h:Dq Γ p X] (hw:Sat w0 w Γ):CN w p X:=by
 obtain⟨i,hi⟩:=h.ok;exact mT hw i hi
structure Dg (X:Ci):Prop where
 pos:∀ x∈X.vars,1<=x
 mem:∀ v∈X.pat,0<=v/\v<X.vars.length
 cnt:aL X.vars X.pat<=4096
 mS:X.mS.length=(aL X.vars X.pat).toNat
 bI:∀ e∈X.sys.ak,0<=e.bI/\e.bI<X.sys.au.length
 src:∀ e∈X.sys.ak,0<=e.src/\e.src<X.mS.length
 dst:∀ e∈X.sys.ak,0<=e.dst/\e.dst<X.mS.length
 cC:∀ i:Nat,i<X.mS.length->0<=dg X.mS i/\dg X.mS i<=inf
 qzL:X.vars.length<=64
 qx2:X.sys.au.length<=4096
 qx3:X.sys.ak.length<=65536
open Classical in
noncomputable def sy (X:Ci) (s:List Int):Int:=if Ac X.vars s then dg X.mS (bj X.vars X.pat s) else 1125899906842624
theorem qla {X:Ci}{s:List Int}(h:Ac X.vars s):sy X s=dg X.mS (bj X.vars X.pat s):=if_pos h
theorem quB {X:Ci}{s:List Int}(h:¬Ac X.vars s):sy X s=1125899906842624:=if_neg h
theorem qh5 {w0:World}{p:Addr}{X:Ci}{sv:Value}{s:List Int}(hd:CN w0 p X) (ho:Dg X) (hs:RS aa w0 sv s) :
  Calls Tryz.prog 327 #[.pointer (some p),sv] w0 fun e w'=>e=.returned (.int .i64 (sy X s))/\Sat w0 w' []:=by
 obtain⟨vv,pv,cv,ev,gv,tv,h0,h1,h2,h3,h4,h5,h6⟩:=hd;have zN:=h2.bo;have htl:=ho.mS;have eN:=ho.cnt;have hw:=Sat.start w0;refine bn (args:=[.pointer (some p),sv]) mixed Tryz.func327 ?_;refine ab ?_;refine aJ rfl (wB h1 (hs.at hw)) ?_;rintro _ w' ⟨⟨r,rfl,hr⟩,aj⟩;refine aC ?_;clear aj hw;intro hw;cases r
 ·rw[quB (fun h=>by have:=hr.2 h;cases this)]
  refine ab ?_;exact aW (v:=.int .i64 1125899906842624) rfl rfl ⟨rfl,hw⟩
 have br:=hr.1 rfl;have hls:=br.1;rw[qla br];refine ab ?_;refine dj [5,5,7,7,22,40] (G:=Nat) (H:=Int) (fun k n=>[(22,.int .i64 k),(5,.int .i64 n)]) (fun k n w=>k<=X.pat.length/\n=bj X.vars (X.pat.take k) s/\Sat w0 w []) (fun k _=>X.pat.length-k) 0 0 (fun _ _=>rfl) ⟨rfl,rfl,trivial⟩ ⟨zero_le _,rfl,hw⟩ ?_;clear hw;rintro σ k n w ⟨hk,hn,hw⟩;refine ab ?_;refine ai ?_ ?_<;>intro h7
 ·have aK:k<X.pat.length:=by omega
  have hv:=ho.mem _ (bY aa.dflt aK);have hr:=br.cC hv.1 hv.2;have rV:=k9 (p:=X.pat.take k) br fun v hv=>ho.mem v (mem_of_mem_take hv);have o0:=k9 (p:=X.pat.take (k+1)) br fun v hv=>ho.mem v (mem_of_mem_take hv);have hle:=qgs ho.pos ho.mem (k+1);have hS:=qhN (vars:=X.vars) (s:=s) aK;rw[<-hn]at rV hS;simp only[sg]at hS hr;have b0:0<=n*X.vars.getD (X.pat.getD k aa.dflt).toNat aa.dflt:=Int.mul_nonneg om om;refine fi ?_;intro w hw;exact⟨k+1,_,⟨rfl,rfl,trivial⟩,aH,⟨by omega,hS.symm,hw⟩,by omega⟩
 ·rw[take_of_length_le om]at hn
  have hb:=k9 br ho.mem;subst hn;refine ab ?_;exact aW (v:=.int .i64 (dg X.mS (bj X.vars X.pat s))) rfl rfl ⟨rfl,hw⟩
theorem qhl {w0:World}{p:Addr}{X:Ci}(hd:CN w0 p X) (ho:Dg X) :
  Calls Tryz.prog 86 #[.pointer (some p)] w0 fun e w'=>∃ s,e=.returned s/\Sat w0 w' [OS aa 3 s (kI X.sys.ak X.mS X.sys.au.length)]:=by
 obtain⟨vv,pv,cv,ev,gv,tv,h0,h1,h2,h3,h4,h5,h6⟩:=hd;have htl:=ho.mS;have eN:=ho.cnt;have uK:=ho.qx2;have la:=ho.qx3;have hw:=Sat.start w0;refine bn (args:=[.pointer (some p)]) mixed Tryz.func86 ?_;refine kq ?_;intro s w hw;obtain⟨ov,uL⟩:∃ ov,ov=s:=⟨s,rfl⟩
 subst uL;rw[Int.toNat_natCast,<-qp3 X.sys.ak X.mS X.sys.au.length]at hw;refine cd [5,7,23,62] (G:=Nat) (fun k=>[(23,.int .i64 k)]) (fun k w=>k<=X.sys.ak.length/\Sat w0 w [OS aa 3 ov (j5 X.sys.ak X.mS X.sys.au.length k)]) (fun k=>X.sys.ak.length-k) 0 (fun _=>rfl) ⟨rfl,trivial⟩ ⟨zero_le _,hw⟩ ?_;clear hw;rintro σ k w ⟨hk,hw⟩;have iL:=qiL (E:=X.sys.ak) (D:=X.mS) (m:=X.sys.au.length) k hk;refine ab ?_;refine ai ?_ ?_<;>intro h7
 ·have aK:k<X.sys.ak.length:=by omega
  have qx:=bY ax.dflt aK;have e1:=ho.bI _ qx;have e2:=ho.src _ qx;have e3:=ho.dst _ qx;have r2:=ho.cC (X.sys.ak.getD k ax.dflt).src.toNat om;have r3:=ho.cC (X.sys.ak.getD k ax.dflt).dst.toNat om;rw[Int.toNat_of_nonneg e2.1]at r2;rw[Int.toNat_of_nonneg e3.1]at r3;have jX:=qgm (D:=X.mS) (m:=X.sys.au.length) aK;simp only[iG,dg,fB,inf]at jX r2 r3;refine gm9 ?_;intro p w hw;refine ai ?_ ?_<;>intro h8
  ·rw[if_pos h8]at jX
   refine fi ?_;intro w hw;rw[<-jX]at hw;exact⟨k+1,⟨rfl,trivial⟩,aH,⟨by omega,hw.tail⟩,by omega⟩
  ·rw[if_neg om]at jX
   refine ab ?_;rw[<-jX]at hw;exact⟨k+1,⟨rfl,trivial⟩,aH,⟨by omega,hw.tail⟩,by omega⟩
 ·have cH:k=X.sys.ak.length:=by omega
  subst cH;refine ab ?_;exact aW (v:=ov) rfl rfl ⟨ov,rfl,hw⟩
end
end Go.Proofs.YtmapkjoefdgjfaaGreatDoor
