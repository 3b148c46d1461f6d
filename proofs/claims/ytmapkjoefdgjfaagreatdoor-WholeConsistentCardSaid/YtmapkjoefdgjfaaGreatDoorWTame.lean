/-
  Contract of 'Tame': a tame task is small.
-/
import Derived.Test.YtmapkjoefdgjfaaGreatDoorMW4
set_option linter.unusedSimpArgs false
set_option linter.unusedVariables false
set_option maxRecDepth 8000
set_option maxHeartbeats 16000000
open List Nat
namespace Go.Proofs.YtmapkjoefdgjfaaGreatDoor
open Go.Sl Go
attribute [local irreducible] vc opsW opsD opV opW PureV ReadV Thn Blk
theorem qr1 {w0:World}{a b c d:Value}{vs:List AK}{t:Aa}(ht:Am w0 a b c d vs t) :
  Calls Tryz.prog 7 #[.agg #[a,b,c,d]] w0 fun e w'=>(∃ r,e=.returned (.bool r)/\(r=true->AB t))/\Sat w0 w' []:=by
 have eF:=ht;obtain⟨ha,hb,hc,hd⟩:=ht;have jx:=hd.rs;have jZ:=hd.len;have ir:=ha.bo;have jv:=jx.bo;have hw:=Sat.start w0;refine bn (args:=[.agg #[a,b,c,d]]) mixed Tryz.func7 ?_;refine cK ?_;intro p w hw;obtain⟨pt,dO⟩:∃ pt,pt=p:=⟨p,rfl⟩
 subst dO;refine aJ rfl (qoK (eF.at hw)) ?_;rintro _ w' ⟨⟨r,rfl,hr⟩,aj⟩;refine aC ?_;clear aj hw;intro hw;cases r
 ·refine ab ?_
  exact aW (v:=.bool false) rfl rfl ⟨⟨false,rfl,fun h=>by cases h⟩,lB hw⟩
 have hs:=hr.1 rfl;refine ab ?_;refine cd [2,2,4,4,16,26] (G:=Nat) (fun k=>[(16,.int .i64 k)]) (fun k w=>k<=t.vars.length/\Sat w0 w [Ad pt 26 [a,b,c,d]]) (fun k=>t.vars.length-k) 0 (fun _=>rfl) ⟨rfl,trivial⟩ ⟨zero_le _,hw⟩ ?_;clear hw;rintro σ k w ⟨hk,hw⟩;refine ab ?_;refine ai ?_ ?_<;>intro h1
 ·have aK:k<t.vars.length:=by omega
  refine ab ?_;refine ai ?_ ?_<;>intro h2
  ·refine ab ?_
   exact aW (v:=.bool false) rfl rfl ⟨⟨false,rfl,fun h=>by cases h⟩,lB hw⟩
  ·refine ab ?_
   exact⟨k+1,⟨rfl,trivial⟩,aH,⟨by omega,hw⟩,by omega⟩
 refine ab ?_;refine cd [2,2,6,7,9,9,30,54] (G:=Nat) (fun k=>[(30,.int .i64 k)]) (fun k w=>k<=t.ops.length/\Sat w0 w [Ad pt 26 [a,b,c,d]]) (fun k=>t.ops.length-k) 0 (fun _=>rfl) ⟨rfl,trivial⟩ ⟨zero_le _,hw⟩ ?_;clear hw;rintro σ1 k w ⟨hk,hw⟩;refine ab ?_;refine ai ?_ ?_<;>intro h3
 ·have aK:k<t.ops.length:=by omega
  have bW:=hd.at_ k aK;have hone:=bW.one;obtain⟨es,eE⟩:=bW.aw;have jP:=eE.rs;have la:=eE.len;have uA:=jP.bo;refine db ?_;intro p w hw;obtain⟨po,nQ⟩:∃ po,po=p:=⟨p,rfl⟩
  subst nQ;have hw:Sat w0 w [Ad po 44 (bJ.enc (az bJ vs k)),Ad pt 26 [a,b,c,d]]:=hw;refine dj [2,2,7,7,9,9,37,51] (G:=Nat) (H:=Nat) (fun i m=>[(37,.int .i64 i),(7,.int .i64 m)]) (fun i m w=>i<=(t.ops.getD k aO).aw.length/\m<=i/\Sat w0 w [Ad po 44 (bJ.enc (az bJ vs k)),Ad pt 26 [a,b,c,d]]) (fun i _=>(t.ops.getD k aO).aw.length-i) 0 0 (fun _ _=>rfl) ⟨rfl,rfl,trivial⟩ ⟨zero_le _,Nat.le_refl _,hw⟩ ?_;clear hw;rintro σ2 i m w ⟨hi,hm,hw⟩;refine ab ?_;refine ai ?_ ?_<;>intro h4
  ·have cI:i<(t.ops.getD k aO).aw.length:=by omega
   have pj:=eE.at_ i cI;have oE:=pj.one;have hwn:=pj.when;have hwb:=hwn.bo;refine db ?_;intro p w hw;refine ai ?_ ?_<;>intro h5
   ·refine ab ?_
    exact aW (v:=.bool false) rfl rfl ⟨⟨false,rfl,fun h=>by cases h⟩,lB hw⟩
   refine ab ?_;refine ai ?_ ?_<;>intro h6
   ·refine ab ?_
    exact⟨i+1,m+1,⟨rfl,rfl,trivial⟩,aH,⟨by omega,by omega,hw.tail⟩,by omega⟩
   ·refine ab ?_
    exact⟨i+1,m,⟨rfl,rfl,trivial⟩,aH,⟨by omega,by omega,hw.tail⟩,by omega⟩
  refine ab ?_;refine ai ?_ ?_<;>intro h7
  ·refine ab ?_
   exact aW (v:=.bool false) rfl rfl ⟨⟨false,rfl,fun h=>by cases h⟩,lB hw⟩
  refine ab ?_;exact⟨k+1,⟨rfl,trivial⟩,aH,⟨by omega,hw.tail⟩,by omega⟩
 refine ab ?_;exact aW (v:=.bool true) rfl rfl ⟨⟨true,rfl,fun _=>hs⟩,lB hw⟩
end Go.Proofs.YtmapkjoefdgjfaaGreatDoor
