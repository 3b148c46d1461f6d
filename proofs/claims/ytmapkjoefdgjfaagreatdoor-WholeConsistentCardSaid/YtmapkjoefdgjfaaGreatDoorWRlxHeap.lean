/-
  Contracts of the relaxation's heap and of the package 'container/heap' over it.
-/
import Derived.Test.YtmapkjoefdgjfaaGreatDoorMW2
set_option linter.unusedSimpArgs false
set_option linter.unusedVariables false
set_option maxRecDepth 8000
set_option maxHeartbeats 16000000
open List Nat
namespace Go.Proofs.YtmapkjoefdgjfaaGreatDoor
open Go.Sl
attribute [local irreducible] vc opsW opsD opV opW PureV ReadV Thn Blk
theorem qb6 {w0:World}{h:Value}{xs:List Item}{i j:Nat}{ii jj:Int}(hx:RS ao w0 h xs) (ei:ii=i) (ej:jj=j) (hi:i<xs.length) (hj:j<xs.length) :
  Calls Tryz.prog 340 #[h,.int .i64 ii,.int .i64 jj] w0 fun e w'=>e=.returned (.bool (eJ (hg ao.dflt xs i) (hg ao.dflt xs j)))/\Sat w0 w' []:=by
 subst ei ej;have hw:=Sat.start w0;refine bn (args:=[h,.int .i64 i,.int .i64 j]) mixed Tryz.func340 ?_;refine fi ?_;intro w hw;exact aW (v:=.bool (eJ (hg ao.dflt xs i) (hg ao.dflt xs j))) rfl rfl ⟨rfl,hw⟩
theorem qb7 {w0 w:World}{Γ:List HP}{h:Value}{xs:List Item}{i j:Nat}{ii jj:Int}(ei:ii=i) (ej:jj=j) (hi:i<xs.length) (hj:j<xs.length) (hw:Sat w0 w (OS ao 355 h xs::Γ)) :
  Calls Tryz.prog 341 #[h,.int .i64 ii,.int .i64 jj] w fun e w'=>e=.returned (.tuple #[])/\Sat w0 w' (OS ao 355 h (sw ao.dflt xs i j)::Γ):=by
 subst ei ej;refine bn (args:=[h,.int .i64 i,.int .i64 j]) mixed Tryz.func341 ?_;refine fi ?_;intro w hw;refine zO (s:=h) (j:=i) (x':=hg ao.dflt xs j) rfl rfl rfl rfl hw inferInstance om ?_;clear hw;intro w hw;have hl:(xs.set i (hg ao.dflt xs j)).length=xs.length:=by simp
 refine ab ?_;refine zO (s:=h) (j:=j) (x':=hg ao.dflt xs i) rfl rfl rfl rfl hw inferInstance om ?_;clear hw;intro w hw;refine ab ?_;exact o7 rfl ⟨rfl,hw⟩
theorem ql9 {w0 w:World}{Γ:List HP}{q:Addr}{h:Value}{xs:List Item}{v:Item}(hl:xs.length<1099511627776) (hw:Sat w0 w (OS ao 355 h xs::Ad q 352 [h]::Γ)) :
  Calls Tryz.prog 343 #[.pointer (some q),.iface 355 (.agg #[.int .i64 v.bf,.int .i64 v.state])] w fun e w'=>e=.returned (.tuple #[])/\∃ h',Sat w0 w' (OS ao 355 h' (xs++[v])::Ad q 352 [h']::Γ):=by
 refine bn (args:=[.pointer (some q),.iface 355 (.agg #[.int .i64 v.bf,.int .i64 v.state])]) mixed Tryz.func343 ?_;refine cK ?_;intro p w hw;refine fP (pl [0,1,2,3,4,5] (.chk 3::pl [6,7,8] [])) hw kr ?_;clear hw;intro w hw;refine ab ?_;refine jh ao (x1:=v) rfl rfl rfl (le_of_ble_eq_true rfl) (zero_lt_succ _) hw ?_;clear hw;intro s w hw;refine nV ?_;intro s w hw;exact o7 rfl ⟨rfl,_,hw.tail.tail⟩
theorem qoO {w0 w:World}{Γ:List HP}{q:Addr}{h:Value}{xs:List Item}(hl:0<xs.length) (hb:xs.length<=1099511627776) (hw:Sat w0 w (OS ao 355 h xs::Ad q 352 [h]::Γ)) :
  Calls Tryz.prog 342 #[.pointer (some q)] w fun e w'=>e=.returned (.iface 355 ((.agg #[.int .i64 (hg ao.dflt xs (xs.length-1)).bf,.int .i64 (hg ao.dflt xs (xs.length-1)).state])))/\∃ h',Sat w0 w' (OS ao 355 h' (xs.take (xs.length-1))::Ad q 352 [h']::Γ):=by
 refine bn (args:=[.pointer (some q)]) mixed Tryz.func342 ?_;refine db ?_;intro p w hw;have hk:(((xs.length:Nat):Int)-1).toNat=xs.length-1:=by omega
 replace hw:=Sat.sub (s:=h) (xs:=xs) hw inferInstance 0 (((xs.length:Nat):Int)-1).toNat om om;refine fi ?_;intro w hw;refine aW (v:=.iface 355 ((.agg #[.int .i64 (hg ao.dflt xs (((xs.length:Nat):Int)-1).toNat).bf,.int .i64 (hg ao.dflt xs (((xs.length:Nat):Int)-1).toNat).state]))) rfl rfl ⟨by rw[hk],ssub h ao.sz 0 (((xs.length:Nat):Int)-1).toNat,?_⟩;have hc:cut xs 0 (((xs.length:Nat):Int)-1).toNat=xs.take (xs.length-1):=by rw[hk];simp[cut]
 rw[hc]at hw;exact hw.tail
theorem qff {w0:World}{h:Value}{xs:List Item}(hx:RS ao w0 h xs) :
  Calls Tryz.prog 265 #[h] w0 fun e w'=>e=.returned (.int .i64 xs.length)/\Sat w0 w' []:=by
 have hw:=Sat.start w0;refine bn (args:=[h]) mixed Tryz.func265 ?_;refine ab ?_;exact aW (v:=.int .i64 xs.length) rfl rfl ⟨rfl,hw⟩
theorem qrF {w0 w:World}{Γ:List HP}{q:Addr}{h:Value}{xs:List Item}{j:Nat}{jj:Int}(ej:jj=j) (U:C4 ao.dflt eJ xs j) (hb:xs.length<=1099511627776) (hw:Sat w0 w (OS ao 355 h xs::Ad q 352 [h]::Γ)) :
  Calls Tryz.prog 166 #[.iface 353 (.pointer (some q)),.int .i64 jj] w fun e w'=>e=.returned (.tuple #[])/\∃ ys,Av ao.dflt eJ ys/\ys.Perm xs/\Sat w0 w' (OS ao 355 h ys::Ad q 352 [h]::Γ):=by
 subst ej;refine bn (args:=[.iface 353 (.pointer (some q)),.int .i64 j]) mixed Tryz.func166 ?_;refine ab ?_;refine dj [1,1,4,22] (G:=Nat) (H:=List Item) (fun j ys=>[(1,.int .i64 j)]) (fun j ys w=>C4 ao.dflt eJ ys j/\ys.Perm xs/\Sat w0 w (OS ao 355 h ys::Ad q 352 [h]::Γ)) (fun j ys=>j) j xs (fun _ _=>rfl) ⟨rfl,trivial⟩ ⟨U,.refl _,hw⟩ ?_;clear hw U;rintro σ j ys w ⟨U,hp,hw⟩;have bD:=U.inb;have nh:=hp.length_eq;refine ab ?_;simp only[qjI];by_cases ie:(j-1) / 2=j
 ·have jt:decide ((((j-1) / 2:Nat):Int)=(j:Int))=true:=decide_eq_true om
  simp only[jt];refine ab ?_;exact o7 rfl ⟨rfl,ys,U.done (.inl ie),hp,hw⟩
 ·have jt:decide ((((j-1) / 2:Nat):Int)=(j:Int))=false:=decide_eq_false om
  simp only[jt,rh];refine ab ?_;refine ln (u:=h) rfl rfl (hw.fx inferInstance rfl) (qb6 (aM hw) rfl rfl bD (show (j-1) / 2<ys.length by omega)) ?_;rintro _ w' ⟨rfl,hk⟩;replace hw:=hw.bz hk;clear hk
  cases hL:eJ (hg ao.dflt ys j) (hg ao.dflt ys ((j-1) / 2)) with
  | false =>
   refine⟨_,rfl,?_⟩;refine ab ?_
   exact o7 rfl ⟨rfl,ys,U.done (.inr hL),hp,hw⟩
  | true =>
   refine⟨_,rfl,?_⟩;refine ab ?_;refine ln (u:=h) rfl rfl (hw.fx inferInstance rfl) (qb7 rfl rfl (show (j-1) / 2<ys.length by omega) bD hw) ?_;clear hw;rintro _ w ⟨rfl,hw⟩;refine⟨_,rfl,?_⟩;refine ab ?_;exact⟨(j-1) / 2,_,⟨rfl,trivial⟩,aH,⟨U.step ie hL,(ur om bD).trans hp,hw⟩,by omega⟩
theorem qma {w0 w:World}{Γ:List HP}{q:Addr}{h:Value}{xs:List Item}{n:Nat}{nn:Int}(en:nn=n) (D:CO ao.dflt eJ xs n 0) (hb:xs.length<=1099511627776) (hw:Sat w0 w (OS ao 355 h xs::Ad q 352 [h]::Γ)) :
  Calls Tryz.prog 167 #[.iface 353 (.pointer (some q)),.int .i64 0,.int .i64 nn] w fun e w'=>∃ b ys,e=.returned (.bool b)/\Cn ao.dflt eJ ys n/\ys.Perm xs/\(∀ k,n<=k->hg ao.dflt ys k=hg ao.dflt xs k)/\Sat w0 w' (OS ao 355 h ys::Ad q 352 [h]::Γ):=by
 subst en;refine bn (args:=[.iface 353 (.pointer (some q)),.int .i64 0,.int .i64 n]) mixed Tryz.func167 ?_;refine ab ?_;refine dj [7,10,12,44] (G:=Nat) (H:=List Item) (fun i ys=>[(7,.int .i64 i)]) (fun i ys w=>CO ao.dflt eJ ys n i/\i<=n/\ys.Perm xs/\(∀ k,n<=k->hg ao.dflt ys k=hg ao.dflt xs k)/\Sat w0 w (OS ao 355 h ys::Ad q 352 [h]::Γ)) (fun i ys=>n-i) 0 xs (fun _ _=>rfl) ⟨rfl,trivial⟩ ⟨D,zero_le _,.refl _,fun _ _=>rfl,hw⟩ ?_;clear hw D;rintro σ i ys w ⟨D,gY,hp,bS,hw⟩;have ow:=D.le;have nh:=hp.length_eq;refine ab ?_;refine ai ?_ ?_<;>intro h1
 ·refine ab ?_
  exact aW (v:=.bool _) rfl rfl ⟨_,ys,rfl,D.leaf om,hp,bS,hw⟩
 ·have tz:2*i+1<n:=by omega
  refine ab ?_;by_cases h2:2*i+2<n
  ·have jt:decide (2*(i:Int)+1+1<(n:Int))=true:=decide_eq_true om
   simp only[jt,ri];refine ab ?_;refine ln (u:=h) rfl rfl (hw.fx inferInstance rfl) (qb6 (i:=2*i+2) (j:=2*i+1) (aM hw) om om om om) ?_;rintro _ w' ⟨rfl,hk⟩;replace hw:=hw.bz hk;clear hk
   cases hL:eJ (hg ao.dflt ys (2*i+2)) (hg ao.dflt ys (2*i+1)) with
   | true =>
    refine⟨_,rfl,?_⟩;refine me ?_;refine rp [9,9,34,34] (G:=Nat) (fun j=>[(9,.int .i64 j)]) (fun j w=>(j=2*i+1\/j=2*i+2)/\j<n/\(∀ c,0<c->c<n->(c-1) / 2=i->hle eJ (hg ao.dflt ys j) (hg ao.dflt ys c))/\Sat w0 w (OS ao 355 h ys::Ad q 352 [h]::Γ)) (fun _=>rfl) ?_ ?_
    ·refine ab ?_
     refine⟨2*i+2,⟨?_,trivial⟩,aH,.inr rfl,h2,fun c h0 h1 hc=>?_,hw⟩
     ·show Value.int .i64 (2*(i:Int)+1+1)=_
      congr 1
     ·have:c=2*i+1\/c=2*i+2:=by omega
      rcases this with rfl|rfl
      ·exact qmw hL
      ·exact yi _
    ·clear hw
     rintro σ1 j w ⟨hj,ky,cV,hw⟩;refine ab ?_;refine ln (u:=h) rfl rfl (hw.fx inferInstance rfl) (qb6 (aM hw) rfl rfl (show j<ys.length by omega) (show i<ys.length by omega)) ?_;rintro _ w' ⟨rfl,hk⟩;replace hw:=hw.bz hk;clear hk
     cases hL:eJ (hg ao.dflt ys j) (hg ao.dflt ys i) with
     | false =>
      refine⟨_,rfl,?_⟩;refine ab ?_
      exact aW (v:=.bool _) rfl rfl ⟨_,ys,rfl,D.done cV hL,hp,bS,hw⟩
     | true =>
      refine⟨_,rfl,?_⟩;refine ab ?_;refine ln (u:=h) rfl rfl (hw.fx inferInstance rfl) (qb7 rfl rfl (show i<ys.length by omega) (show j<ys.length by omega) hw) ?_;clear hw;rintro _ w ⟨rfl,hw⟩;refine⟨_,rfl,?_⟩;refine ab ?_;refine⟨j,_,⟨rfl,trivial⟩,aH,⟨D.step hj ky cV hL,by omega,(ur om om).trans hp,fun k hk=>?_,hw⟩,by omega⟩;rw[nM om om,if_neg om,if_neg om]
      exact bS k hk
   | false =>
    refine⟨_,rfl,?_⟩;refine me ?_;refine rp [9,9,34,34] (G:=Nat) (fun j=>[(9,.int .i64 j)]) (fun j w=>(j=2*i+1\/j=2*i+2)/\j<n/\(∀ c,0<c->c<n->(c-1) / 2=i->hle eJ (hg ao.dflt ys j) (hg ao.dflt ys c))/\Sat w0 w (OS ao 355 h ys::Ad q 352 [h]::Γ)) (fun _=>rfl) ?_ ?_
    ·refine ab ?_
     refine⟨2*i+1,⟨?_,trivial⟩,aH,.inl rfl,tz,fun c h0 h1 hc=>?_,hw⟩
     ·show Value.int .i64 (2*(i:Int)+1)=_
      congr 1
     ·have:c=2*i+1\/c=2*i+2:=by omega
      rcases this with rfl|rfl
      ·exact yi _
      ·exact hL
    ·clear hw
     rintro σ1 j w ⟨hj,ky,cV,hw⟩;refine ab ?_;refine ln (u:=h) rfl rfl (hw.fx inferInstance rfl) (qb6 (aM hw) rfl rfl (show j<ys.length by omega) (show i<ys.length by omega)) ?_;rintro _ w' ⟨rfl,hk⟩;replace hw:=hw.bz hk;clear hk
     cases hL:eJ (hg ao.dflt ys j) (hg ao.dflt ys i) with
     | false =>
      refine⟨_,rfl,?_⟩;refine ab ?_
      exact aW (v:=.bool _) rfl rfl ⟨_,ys,rfl,D.done cV hL,hp,bS,hw⟩
     | true =>
      refine⟨_,rfl,?_⟩;refine ab ?_;refine ln (u:=h) rfl rfl (hw.fx inferInstance rfl) (qb7 rfl rfl (show i<ys.length by omega) (show j<ys.length by omega) hw) ?_;clear hw;rintro _ w ⟨rfl,hw⟩;refine⟨_,rfl,?_⟩;refine ab ?_;refine⟨j,_,⟨rfl,trivial⟩,aH,⟨D.step hj ky cV hL,by omega,(ur om om).trans hp,fun k hk=>?_,hw⟩,by omega⟩;rw[nM om om,if_neg om,if_neg om];exact bS k hk
  ·have jt:decide (2*(i:Int)+1+1<(n:Int))=false:=decide_eq_false om
   simp only[jt];refine me ?_;refine rp [9,9,34,34] (G:=Nat) (fun j=>[(9,.int .i64 j)]) (fun j w=>(j=2*i+1\/j=2*i+2)/\j<n/\(∀ c,0<c->c<n->(c-1) / 2=i->hle eJ (hg ao.dflt ys j) (hg ao.dflt ys c))/\Sat w0 w (OS ao 355 h ys::Ad q 352 [h]::Γ)) (fun _=>rfl) ?_ ?_
   ·refine ab ?_
    refine⟨2*i+1,⟨?_,trivial⟩,aH,.inl rfl,tz,fun c h0 h1 hc=>?_,hw⟩
    ·show Value.int .i64 (2*(i:Int)+1)=_
     congr 1
    ·have:c=2*i+1:=by omega
     subst this;exact yi _
   ·clear hw
    rintro σ1 j w ⟨hj,ky,cV,hw⟩;refine ab ?_;refine ln (u:=h) rfl rfl (hw.fx inferInstance rfl) (qb6 (aM hw) rfl rfl (show j<ys.length by omega) (show i<ys.length by omega)) ?_;rintro _ w' ⟨rfl,hk⟩;replace hw:=hw.bz hk;clear hk
    cases hL:eJ (hg ao.dflt ys j) (hg ao.dflt ys i) with
    | false =>
     refine⟨_,rfl,?_⟩;refine ab ?_
     exact aW (v:=.bool _) rfl rfl ⟨_,ys,rfl,D.done cV hL,hp,bS,hw⟩
    | true =>
     refine⟨_,rfl,?_⟩;refine ab ?_;refine ln (u:=h) rfl rfl (hw.fx inferInstance rfl) (qb7 rfl rfl (show i<ys.length by omega) (show j<ys.length by omega) hw) ?_;clear hw;rintro _ w ⟨rfl,hw⟩;refine⟨_,rfl,?_⟩;refine ab ?_;refine⟨j,_,⟨rfl,trivial⟩,aH,⟨D.step hj ky cV hL,by omega,(ur om om).trans hp,fun k hk=>?_,hw⟩,by omega⟩;rw[nM om om,if_neg om,if_neg om];exact bS k hk
theorem qg8 {w0 w:World}{Γ:List HP}{q:Addr}{h:Value}{xs:List Item}{v:Item}(H:Av ao.dflt eJ xs) (hb:xs.length<1099511627776) (hw:Sat w0 w (OS ao 355 h xs::Ad q 352 [h]::Γ)) :
  Calls Tryz.prog 142 #[.iface 353 (.pointer (some q)),.iface 355 (.agg #[.int .i64 v.bf,.int .i64 v.state])] w fun e w'=>e=.returned (.tuple #[])/\∃ h' ys,Av ao.dflt eJ ys/\ys.Perm (v::xs)/\Sat w0 w' (OS ao 355 h' ys::Ad q 352 [h']::Γ):=by
 refine bn (args:=[.iface 353 (.pointer (some q)),.iface 355 (.agg #[.int .i64 v.bf,.int .i64 v.state])]) mixed Tryz.func142 ?_;refine ab ?_;refine qdy rfl rfl (ql9 (v:=v) om hw) ?_;clear hw;rintro _ w ⟨rfl,h',hw⟩;refine⟨_,rfl,?_⟩;refine ab ?_;refine ln (u:=h') rfl rfl (hw.fx inferInstance rfl) (qff (aM hw)) ?_;rintro _ w' ⟨rfl,hk⟩;replace hw:=hw.bz hk;clear hk;refine⟨_,rfl,?_⟩;have hl:(xs++[v]).length=xs.length+1:=by simp
 refine ab ?_;refine aJ rfl (qrF (j:=xs.length) (by rw[hl];omega) (qmx H) om hw) ?_;clear hw;rintro _ w ⟨rfl,ys,h1,h2,hw⟩;refine⟨_,rfl,?_⟩;refine ab ?_;exact o7 rfl ⟨rfl,h',ys,h1,h2.trans (perm_append_comm (l₁:=xs) (l₂:=[v])),hw⟩
theorem qhn {w0 w:World}{Γ:List HP}{q:Addr}{h:Value}{xs:List Item}(H:Av ao.dflt eJ xs) (hl:0<xs.length) (hb:xs.length<=1099511627776) (hw:Sat w0 w (OS ao 355 h xs::Ad q 352 [h]::Γ)) :
  Calls Tryz.prog 144 #[.iface 353 (.pointer (some q))] w fun e w'=>∃ v h' ys,e=.returned (.iface 355 (.agg #[.int .i64 v.bf,.int .i64 v.state]))/\Av ao.dflt eJ ys/\xs.Perm (v::ys)/\(∀ x∈xs,hle eJ v x)/\Sat w0 w' (OS ao 355 h' ys::Ad q 352 [h']::Γ):=by
 refine bn (args:=[.iface 353 (.pointer (some q))]) mixed Tryz.func144 ?_;refine ab ?_;refine ln (u:=h) rfl rfl (hw.fx inferInstance rfl) (qff (aM hw)) ?_;rintro _ w' ⟨rfl,hk⟩;replace hw:=hw.bz hk;clear hk;refine⟨_,rfl,?_⟩;refine ab ?_;refine ln (u:=h) rfl rfl (hw.fx inferInstance rfl) (qb7 (i:=0) (j:=xs.length-1) rfl om hl om hw) ?_;clear hw;rintro _ w ⟨rfl,hw⟩;refine⟨_,rfl,?_⟩;refine ab ?_;refine aJ rfl (qma (n:=xs.length-1) om (qph H hl) (by rw[yj];exact hb) hw) ?_;clear hw;rintro _ w ⟨b,ys,rfl,h1,h2,h3,hw⟩;have hp:=h2.trans (ur hl (show xs.length-1<xs.length by omega));have nh:=hp.length_eq;refine⟨_,rfl,?_⟩;refine ab ?_;refine qdy rfl rfl (qoO om om hw) ?_;clear hw;rintro _ w ⟨rfl,h',hw⟩;refine⟨_,rfl,?_⟩;refine ab ?_;have lE:hg ao.dflt ys (xs.length-1)=hg ao.dflt xs 0:=by
  rw[h3 _ (Nat.le_refl _),nM hl om,if_pos rfl]
 obtain⟨hh,uj⟩:=qmz hl hp h1 lE;rw[nh]at hw;refine aW (v:=.iface 355 ((.agg #[.int .i64 (hg ao.dflt ys (ys.length-1)).bf,.int .i64 (hg ao.dflt ys (ys.length-1)).state]))) rfl rfl ⟨hg ao.dflt xs 0,h',_,by rw[nh,lE],hh,uj,fun x hx=>qmy H hx,hw⟩
end Go.Proofs.YtmapkjoefdgjfaaGreatDoor
