/-
  The constructor of the landmark estimate, without what its values are: contract for the kinds 1 to 3.
-/
import Derived.Test.YtmapkjoefdgjfaaGreatDoorMW10
set_option linter.unusedSimpArgs false
set_option linter.unusedVariables false
set_option maxRecDepth 8000
set_option maxHeartbeats 16000000
open List Nat
namespace Go.Proofs.YtmapkjoefdgjfaaGreatDoor
open Go.Sl Go
attribute [local irreducible] vc opsW opsD opV opW PureV ReadV Thn Blk
theorem qfe {w0:World}{a b c d:Value}{vs:List AK}{t:Aa}{kind:Int}(j7:1<=kind) (w5:kind<=3) (ht:Am w0 a b c d vs t) (hg:Af t) :
  Calls Tryz.prog 29 #[.agg #[a,b,c,d],.int .i64 kind] w0 fun e w'=>∃ p,e=.returned (.tuple #[.pointer (some p),.nilIface])/\Sat w0 w' []:=by
 have hw:=Sat.start w0;refine bn (args:=[.agg #[a,b,c,d],.int .i64 kind]) mixed Tryz.func29 ?_;refine db ?_;intro p w hw;obtain⟨pt,rfl⟩:∃ x,x=p:=⟨_,rfl⟩
 refine aJ rfl (sH (ht.at hw)) ?_;refine mf ?_;clear hw;intro w' hw;rw[iy ((nZ t).2 hg)];have ee:decide (kind<1)=false:=decide_eq_false om;have jI:decide (3<kind)=false:=decide_eq_false om;refine ab ?_
 try simp only[ee,jI];refine sg2 ?_
 refine ab ?_;refine fP (pl [0,1,2] (.chk 0::pl [3,4] (.chk 0::pl [5,6,7,8,9,10,11] []))) hw kr ?_;clear hw;intro w hw;refine ab ?_;refine aJ rfl (qg7 (ht.at hw) hg) ?_;rintro _ w' ⟨a2,b2,c2,d2,vs2,rfl,aj⟩;refine aA ?_;clear aj hw;intro hw;refine ab ?_;refine qc4 (vs:=[(0,.agg #[a2,b2,c2,d2]),(1,.int .i64 kind)]) (ls:=[(0,[a2,b2,c2,d2]),(1,[.int .i64 kind])]) rfl rfl rfl ?_;refine ab ?_;refine aJ rfl (wC (h:=.iface 102 (.agg #[a2,b2,c2,d2,.int .i64 kind])) (H:=fun _=>0) (ht.at hw) hg ⟨_,_,rfl⟩) ?_;rintro _ w' ⟨pe,rfl,aj⟩;refine aA ?_;clear aj hw;intro hw;refine ab ?_;exact dz (v:=.pointer (some pe)) (v':=.nilIface) rfl rfl rfl ⟨pe,rfl,hw.aT⟩
end Go.Proofs.YtmapkjoefdgjfaaGreatDoor
