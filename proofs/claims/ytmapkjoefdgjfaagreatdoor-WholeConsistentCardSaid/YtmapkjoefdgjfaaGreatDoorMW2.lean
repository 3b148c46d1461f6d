/- Several texts. -/
import Derived.Test.YtmapkjoefdgjfaaGreatDoorTypes
import Derived.Test.YtmapkjoefdgjfaaGreatDoorMTA
import Derived.Shelf.SlSortCmp.Whole1
set_option linter.unusedSimpArgs false
set_option linter.unusedVariables false
set_option maxRecDepth 8000
set_option maxHeartbeats 16000000
open List Nat
namespace Go.Proofs.YtmapkjoefdgjfaaGreatDoor
section
open Go.Sl Go Go.Shelf
attribute [local irreducible] vc opsW opsD opV opW PureV ReadV Thn Blk
theorem rG {P:Program}{f:FuncId}{B:Func}(h1:(((P.funcs[f]?).map Func.name).getD "" == "runtime.NumGoroutine") = false := by kernel_rfl) (h2 : P.funcs[f]? = some {B with name := ((P.funcs[f]?).map Func.name).getD ""} := by kernel_rfl) : Bears P f B := ⟨_, h1, h2⟩
def qym:Ren:=⟨rl [6,140,14,164,15,98,20,180,21,181,22,182,23,183,24,184,25,185,26,186,27,187,28,132,29,133,46,205,47,154,48,155,49,206,50,207,57,214],rl [0,0,3,3,4,4,5,5,9,9,22,33,24,22,25,53,39,175,45,210,46,211,50,183,53,218,55,220,66,250,70,254,76,279,77,267],fun k=>k⟩
set_option maxRecDepth 100000 in
theorem qyd:SlLaysF.n6 Tryz.prog qym:=by constructor<;>first|exact mixed|kernel_rfl|(intro w;kernel_rfl)|exact rG
theorem qh8 {w:World}{x:Int}:Calls Tryz.prog 158 #[.int .i64 x] w fun e w'=>e=.returned (.bool false)/\w'=w:=by
 have hw:=Sat.start w;refine bn (args:=[.int .i64 x]) mixed Tryz.func158 ?_;refine ab ?_;exact aW (v:=.bool (!decide (x=x))) rfl rfl ⟨by simp,rfl⟩
theorem qkX {w:World}{x y:Int}:Calls Tryz.prog 165 #[.int .i64 x,.int .i64 y] w fun e w'=>e=.returned (.int .i64 (if x<y then -1 else if y<x then 1 else 0))/\w'=w:=by
 have hw:=Sat.start w;refine bn (args:=[.int .i64 x,.int .i64 y]) mixed Tryz.func165 ?_;refine ab ?_;refine aJ rfl qh8 ?_;rintro _ w' ⟨rfl,rfl⟩;refine⟨_,rfl,?_⟩;refine ab ?_;refine aJ rfl qh8 ?_;rintro _ w' ⟨rfl,rfl⟩;refine⟨_,rfl,?_⟩;refine ab ?_;refine ai ?_ ?_<;>intro h1
 ·refine ab ?_
  exact aW (v:=.int .i64 (-1)) rfl rfl ⟨by rw[if_pos h1],rfl⟩
 refine ab ?_;refine ai ?_ ?_<;>intro h2
 ·refine ab ?_
  exact aW (v:=.int .i64 1) rfl rfl ⟨by rw[if_neg om,if_pos h2],rfl⟩
 ·refine ab ?_
  exact aW (v:=.int .i64 0) rfl rfl ⟨by rw[if_neg om,if_neg om],rfl⟩
theorem qkY {w0:World}{a b:Value}{xs ys:List Int}(ha:RS aa w0 a xs) (hb:RS aa w0 b ys) :
  Calls Tryz.prog 141 #[a,b] w0 fun e w'=>e=.returned (.int .i64 (dB xs ys))/\w'=w0:=by
 have ir:=ha.bo;have nO:=hb.bo;have hw:=Sat.start w0;refine bn (args:=[a,b]) mixed Tryz.func141 ?_;refine ab ?_;refine cd [4,8,11,30] (G:=Nat) (fun k=>[(11,.int .i64 k)]) (fun k w=>w=w0/\k<=xs.length/\k<=ys.length/\dB xs ys=dB (xs.drop k) (ys.drop k)) (fun k=>xs.length-k) 0 (fun _=>rfl) ⟨rfl,trivial⟩ ⟨rfl,zero_le _,zero_le _,rfl⟩ ?_;clear hw;rintro σ k w ⟨rfl,j7,gW,he⟩;have hw:=Sat.start w;refine ab ?_;refine ai ?_ ?_<;>intro h1
 ·have aK:k<xs.length:=by omega
  have oM:xs.drop k=xs.getD k aa.dflt::xs.drop (k+1):=by rw[drop_eq_getElem_cons aK];simp[List.getD,aK]
  refine ab ?_;refine ai ?_ ?_<;>intro h2
  ·have yE:ys.drop k=[]:=drop_eq_nil_of_le om
   refine ab ?_;exact aW (v:=.int .i64 1) rfl rfl ⟨by rw[he,oM,yE];rfl,rfl⟩
  have hky:k<ys.length:=by omega
  have yE:ys.drop k=ys.getD k aa.dflt::ys.drop (k+1):=by rw[drop_eq_getElem_cons hky];simp[List.getD,hky]
  rw[oM,yE]at he;simp only[dB]at he;refine ab ?_;refine aJ rfl qkX ?_;rintro _ w' ⟨rfl,rfl⟩;refine⟨_,rfl,?_⟩;by_cases c1:xs.getD k aa.dflt<ys.getD k aa.dflt
  ·rw[if_pos c1]at he ⊢
   refine ab ?_;exact aW (v:=.int .i64 (-1)) rfl rfl ⟨by rw[he],rfl⟩
  by_cases c2:ys.getD k aa.dflt<xs.getD k aa.dflt
  ·rw[if_neg c1,if_pos c2]at he ⊢
   refine ab ?_;exact aW (v:=.int .i64 1) rfl rfl ⟨by rw[he],rfl⟩
  rw[if_neg c1,if_neg c2]at he ⊢;refine ab ?_;exact⟨k+1,⟨rfl,trivial⟩,aH,⟨rfl,by omega,by omega,he⟩,by omega⟩
 ·have oM:xs.drop k=[]:=drop_eq_nil_of_le om
  refine ab ?_;refine ai ?_ ?_<;>intro h3
  ·have hky:k<ys.length:=by omega
   have yE:ys.drop k=ys.getD k aa.dflt::ys.drop (k+1):=by rw[drop_eq_getElem_cons hky];simp[List.getD,hky]
   refine ab ?_;exact aW (v:=.int .i64 (-1)) rfl rfl ⟨by rw[he,oM,yE];rfl,rfl⟩
  ·have yE:ys.drop k=[]:=drop_eq_nil_of_le om
   refine ab ?_;exact aW (v:=.int .i64 0) rfl rfl ⟨by rw[he,oM,yE];rfl,rfl⟩
end
section
open Go.Sl
attribute [local irreducible] vc opsW opsD opV opW PureV ReadV Thn Blk
def bE (c:Int):Value:=if c=0 then .nilIface else .iface 57 (.int .i64 c)
theorem iy {c:Int}(h:c=0):bE c=.nilIface:=by simp[bE,h]
theorem ep {c:Int}(h:c≠0):bE c=.iface 57 (.int .i64 c):=by simp[bE,h]
theorem qoT {w0:World}{a b:Value}{vars s:List Int}(ha:RS aa w0 a vars) (hb:RS aa w0 b s) :
  Calls Tryz.prog 64 #[a,b] w0 fun e w'=>(∃ r,e=.returned (.bool r)/\(r=true↔Ac vars s))/\Sat w0 w' []:=by
 have ir:=ha.bo;have nO:=hb.bo;have hw:=Sat.start w0;refine bn (args:=[a,b]) mixed Tryz.func64 ?_;refine ab ?_;refine ai ?_ ?_<;>intro h0
 ·refine ab ?_
  refine aW (v:=.bool false) rfl rfl ⟨⟨false,rfl,dr fun h=>?_⟩,hw⟩;exact absurd (by have:=h.1;omega) h0
 ·refine ab ?_
  refine cd [4,5,13,32] (G:=Nat) (fun k=>[(13,.int .i64 k)]) (fun k w=>k<=s.length/\(∀ i,i<k->0<=s.getD i aa.dflt/\s.getD i aa.dflt<vars.getD i aa.dflt)/\Sat w0 w []) (fun k=>s.length-k) 0 (fun _=>rfl) ⟨rfl,trivial⟩ ⟨zero_le _,fun i hi=>absurd hi (not_lt_zero _),hw⟩ ?_;clear hw;rintro σ k w ⟨hk,aN,hw⟩;refine ab ?_;refine ai ?_ ?_<;>intro h1
  ·refine fi ?_;intro w hw
   refine ai ?_ ?_<;>intro h2
   ·refine ab ?_
    refine aW (v:=.bool false) rfl rfl ⟨⟨false,rfl,dr fun h=>?_⟩,hw⟩;have:=h.2 k om;omega
   ·refine ab ?_
    refine⟨k+1,⟨rfl,trivial⟩,aH,⟨by omega,fun i hi=>?_,hw⟩,by omega⟩;by_cases h:i=k
    ·subst h;omega
    ·exact aN i om
  ·refine ab ?_
   exact aW (v:=.bool true) rfl rfl ⟨⟨true,rfl,fU ⟨by omega,fun i hi=>aN i om⟩⟩,hw⟩
theorem qcU {w0:World}{a b:Value}{vars:List Int}{f:List Fact}(ha:RS aa w0 a vars) (hb:RS aq w0 b f) :
  Calls Tryz.prog 65 #[a,b] w0 fun e w'=>(∃ r,e=.returned (.bool r)/\(r=true↔Ax vars f))/\Sat w0 w' []:=by
 have ir:=ha.bo;have nO:=hb.bo;have hw:=Sat.start w0;refine bn (args:=[a,b]) mixed Tryz.func65 ?_;refine ab ?_;refine cd [4,6,9,54] (G:=Nat) (fun k=>[(9,.int .i64 k)]) (fun k w=>k<=f.length/\(∀ i,i<k->Ao vars (f.getD i aq.dflt)/\(0<i->(f.getD (i-1) aq.dflt).var<(f.getD i aq.dflt).var))/\Sat w0 w []) (fun k=>f.length-k) 0 (fun _=>rfl) ⟨rfl,trivial⟩ ⟨zero_le _,fun i hi=>absurd hi (not_lt_zero _),hw⟩ ?_;clear hw;rintro σ k w ⟨hk,aN,hw⟩;refine ab ?_;refine ai ?_ ?_<;>intro h1
 ·refine db ?_;intro p w hw
  refine ai ?_ ?_<;>intro h2
  ·refine ab ?_
   refine aW (v:=.bool false) rfl rfl ⟨⟨false,rfl,dr fun h=>?_⟩,hw.tail⟩;have:=h k om;unfold Ao at this;have j7:((k:Int)-1).toNat=k-1:=by omega
   rw[j7]at h2;omega
  ·refine ab ?_
   refine⟨k+1,⟨rfl,trivial⟩,aH,⟨by omega,fun i hi=>?_,hw.tail⟩,by omega⟩;by_cases h:i=k
   ·subst h
    have j7:((i:Int)-1).toNat=i-1:=by omega
    rw[j7]at h2;unfold Ao;omega
   ·exact aN i om
 ·refine ab ?_
  exact aW (v:=.bool true) rfl rfl ⟨⟨true,rfl,fU fun i hi=>aN i om⟩,hw⟩
theorem qjp {w0:World}{a:Value}{vars:List Int}{v:AK}{o:Bu}(ha:RS aa w0 a vars) (hv:Cm w0 v o) :
  Calls Tryz.prog 66 #[a,.agg (bJ.enc v).toArray] w0 fun e w'=>(∃ r,e=.returned (.bool r)/\(r=true↔Cz vars o))/\Sat w0 w' []:=by
 have ir:=ha.bo;have hw:=Sat.start w0;obtain⟨q9,qzI,qwK,aN,es,eE⟩:=hv;have jx:=eE.rs;have iP:=aN.bo;have la:=jx.bo;have tB:=eE.len;refine bn (args:=[a,.agg (bJ.enc v).toArray]) mixed Tryz.func66 ?_;refine db ?_;intro p w hw;refine qo3 (fun h1=>?_) (fun h1=>?_)
 ·simp only[h1,rh,ri];(try simp only[beq_iff_eq,Bool.and_eq_true,Bool.or_eq_true,decide_eq_true_eq,decide_eq_false_iff_not,Bool.not_eq_true,Bool.not_eq_false,Bool.not_eq_eq_eq_not,Bool.not_true,Bool.not_false,Bool.and_eq_false_iff,Bool.or_eq_false_iff,bne_iff_ne,ne_eq,Int.not_lt,Int.not_le,Nat.not_lt,Nat.not_le]at h1)
  refine ab ?_;refine aW (v:=.bool false) rfl rfl ⟨⟨false,rfl,dr fun h=>?_⟩,hw.tail⟩;have:=h.jc;have:=h.ly;have:=h.aw;have:=h.name.1;rw[<-q9]at this;omega
 ·simp only[h1,rh,ri];(try simp only[beq_iff_eq,Bool.and_eq_true,Bool.or_eq_true,decide_eq_true_eq,decide_eq_false_iff_not,Bool.not_eq_true,Bool.not_eq_false,Bool.not_eq_eq_eq_not,Bool.not_true,Bool.not_false,Bool.and_eq_false_iff,Bool.or_eq_false_iff,bne_iff_ne,ne_eq,Int.not_lt,Int.not_le,Nat.not_lt,Nat.not_le]at h1)
  refine ab ?_;refine aJ rfl (qcU (a:=a) (b:=v.pre) (ha.at hw) (aN.at hw)) ?_;rintro _ w' ⟨⟨r,rfl,hr⟩,hk⟩;replace hw:=hw.bz hk;clear hk;refine⟨_,rfl,?_⟩;refine ab ?_
  cases r with
  | false =>
   refine ab ?_;refine aW (v:=.bool false) rfl rfl ⟨⟨false,rfl,dr fun h=>?_⟩,hw.tail⟩;have:=hr.2 h.pre
   cases this
  | true =>
   have qy8:=hr.1 rfl;refine ab ?_;refine cd [4,5,38,53] (G:=Nat) (fun k=>[(38,.int .i64 k)]) (fun k w=>k<=v.name.size/\(∀ i,i<k->32<=uO v.name i/\uO v.name i<=126)/\Sat w0 w [Ad p 44 (bJ.enc v)]) (fun k=>v.name.size-k) 0 (fun _=>rfl) ⟨rfl,trivial⟩ ⟨zero_le _,fun i hi=>absurd hi (not_lt_zero _),hw⟩ ?_;clear hw;rintro σ k w ⟨hk,jH,hw⟩;refine ab ?_;refine ai ?_ ?_<;>intro h2
   ·refine ab ?_
    refine ai ?_ ?_<;>intro h3
    ·refine ab ?_
     refine aW (v:=.bool false) rfl rfl ⟨⟨false,rfl,dr fun h=>?_⟩,hw.tail⟩;have:=h.name.2 k (by rw[<-q9];omega);rw[<-q9]at this;omega
    ·refine ab ?_
     refine⟨k+1,⟨rfl,trivial⟩,aH,⟨by omega,fun i hi=>?_,hw⟩,by omega⟩;by_cases h:i=k
     ·subst h;omega
     ·exact jH i om
   ·have qy9:BM o.name:=by rw[<-q9];exact⟨by omega,fun i hi=>jH i om⟩
    refine ab ?_;refine cd [4,4,7,7,57,77] (G:=Nat) (fun k=>[(57,.int .i64 k)]) (fun k w=>k<=o.aw.length/\(∀ i,i<k->AV vars (o.aw.getD i ba))/\Sat w0 w [Ad p 44 (bJ.enc v)]) (fun k=>o.aw.length-k) 0 (fun _=>rfl) ⟨rfl,trivial⟩ ⟨zero_le _,fun i hi=>absurd hi (not_lt_zero _),hw⟩ ?_;clear hw;rintro σ1 k w ⟨gW,pj,hw⟩;refine ab ?_;refine ai ?_ ?_<;>intro h4
    ·have nr:=eE.at_ k om
     have nR:=nr.when;have hone:=nr.one;refine db ?_;intro p w hw;refine aJ rfl (qcU (a:=a) (b:=(az aR es k).when) (ha.at hw) (nR.at hw)) ?_;rintro _ w' ⟨⟨r,rfl,hr⟩,aj⟩;refine aC ?_;clear aj hw;intro hw
     cases r with
     | false =>
      refine ab ?_;refine aW (v:=.bool false) rfl rfl ⟨⟨false,rfl,dr fun h=>?_⟩,hw.tail.tail⟩;have:=hr.2 (h.dL k om).1
      cases this
     | true =>
      have qza:=hr.1 rfl;refine ab ?_;refine jh aq (x1:=⟨(az aR es k).var,(az aR es k).val⟩) rfl rfl rfl (le_of_ble_eq_true rfl) (zero_lt_succ _) hw ?_;clear hw;intro s w hw;refine ab ?_;refine aJ rfl (qcU (a:=a) (b:=s) (ha.at hw) (aM hw)) ?_;rintro _ w' ⟨⟨r,rfl,lg⟩,aj⟩;replace hw:=hw.bz aj;clear aj;rw[nr.var,nr.val]at lg;refine⟨_,rfl,?_⟩
      cases r with
      | false =>
       refine ab ?_;refine aW (v:=.bool false) rfl rfl ⟨⟨false,rfl,dr fun h=>?_⟩,hw.tail.tail.tail⟩;have:=lg.2 (h.dL k om).2
       cases this
      | true =>
       have qzb:=lg.1 rfl;refine ab ?_;refine⟨k+1,⟨rfl,trivial⟩,aH,⟨by omega,fun i hi=>?_,hw.tail.tail⟩,by omega⟩;by_cases h:i=k
       ·subst h;exact⟨qza,qzb⟩
       ·exact pj i om
    ·refine ab ?_
     refine aW (v:=.bool true) rfl rfl ⟨⟨true,rfl,fU ⟨by omega,by omega,by omega,qy9,qy8,fun i hi=>pj i om⟩⟩,hw.tail⟩
theorem qrQ {w0:World}{a b c d:Value}{vs:List AK}{t:Aa}(ht:Am w0 a b c d vs t) :
  Calls Tryz.prog 40 #[.agg #[a,b,c,d]] w0 fun e w'=>(∃ r,e=.returned (.bool r)/\(r=true↔Af t))/\Sat w0 w' []:=by
 obtain⟨ha,hb,hc,hd⟩:=ht;have jx:=hd.rs;have jZ:=hd.len;have ir:=ha.bo;have jv:=jx.bo;have hw:=Sat.start w0;refine bn (args:=[.agg #[a,b,c,d]]) mixed Tryz.func40 ?_;refine db ?_;intro p w hw;refine ai ?_ ?_<;>intro h1
 ·refine ab ?_
  refine aW (v:=.bool false) rfl rfl ⟨⟨false,rfl,dr fun h=>?_⟩,hw.tail⟩;have:=h.vars;have:=h.ops;omega
 ·refine ab ?_
  refine cd [2,2,4,4,20,30] (G:=Nat) (fun k=>[(20,.int .i64 k)]) (fun k w=>k<=t.vars.length/\(∀ i,i<k->1<=t.vars.getD i aa.dflt/\t.vars.getD i aa.dflt<=64)/\Sat w0 w [Ad p 26 [a,b,c,d]]) (fun k=>t.vars.length-k) 0 (fun _=>rfl) ⟨rfl,trivial⟩ ⟨zero_le _,fun i hi=>absurd hi (not_lt_zero _),hw⟩ ?_;clear hw;rintro σ k w ⟨hk,qK,hw⟩;refine ab ?_;refine ai ?_ ?_<;>intro h2
  ·refine ab ?_
   refine ai ?_ ?_<;>intro h3
   ·refine ab ?_
    refine aW (v:=.bool false) rfl rfl ⟨⟨false,rfl,dr fun h=>?_⟩,hw.tail⟩;have:=h.gd k om;omega
   ·refine ab ?_
    refine⟨k+1,⟨rfl,trivial⟩,aH,⟨by omega,fun i hi=>?_,hw⟩,by omega⟩;by_cases h:i=k
    ·subst h;omega
    ·exact qK i om
  ·refine ab ?_
   refine aJ rfl (qoT (a:=a) (b:=b) (ha.at hw) (hb.at hw)) ?_;rintro _ w' ⟨⟨r,rfl,hr⟩,aj⟩;refine aC ?_;clear aj hw;intro hw
   cases r with
   | false =>
    refine ab ?_;refine aW (v:=.bool false) rfl rfl ⟨⟨false,rfl,dr fun h=>?_⟩,hw.tail⟩;have:=hr.2 h.init
    cases this
   | true =>
    have qzc:=hr.1 rfl;refine ab ?_;refine aJ rfl (qcU (a:=a) (b:=c) (ha.at hw) (hc.at hw)) ?_;rintro _ w' ⟨⟨r,rfl,lg⟩,aj⟩;refine aC ?_;clear aj hw;intro hw
    cases r with
    | false =>
     refine ab ?_;refine aW (v:=.bool false) rfl rfl ⟨⟨false,rfl,dr fun h=>?_⟩,hw.tail⟩;have:=lg.2 h.goal
     cases this
    | true =>
     have qzd:=lg.1 rfl;refine ab ?_;refine cd [2,2,6,6,48,57] (G:=Nat) (fun k=>[(48,.int .i64 k)]) (fun k w=>k<=t.ops.length/\(∀ i,i<k->Cz t.vars (t.ops.getD i aO))/\Sat w0 w [Ad p 26 [a,b,c,d]]) (fun k=>t.ops.length-k) 0 (fun _=>rfl) ⟨rfl,trivial⟩ ⟨zero_le _,fun i hi=>absurd hi (not_lt_zero _),hw⟩ ?_;clear hw;rintro σ1 k w ⟨gW,bW,hw⟩;refine ab ?_;refine ai ?_ ?_<;>intro h4
     ·have br:=hd.at_ k om
      have hone:=br.one;refine db ?_;intro p w hw;refine aJ rfl (qjp (a:=a) (v:=az bJ vs k) (ha.at hw) (br.at hw)) ?_;rintro _ w' ⟨⟨r,rfl,pN⟩,aj⟩;refine aC ?_;clear aj hw;intro hw
      cases r with
      | false =>
       refine ab ?_;refine aW (v:=.bool false) rfl rfl ⟨⟨false,rfl,dr fun h=>?_⟩,hw.tail.tail⟩;have:=pN.2 (h.op k om)
       cases this
      | true =>
       refine ab ?_;refine⟨k+1,⟨rfl,trivial⟩,aH,⟨by omega,fun i hi=>?_,hw.tail⟩,by omega⟩;by_cases h:i=k
       ·subst h;exact pN.1 rfl
       ·exact bW i om
     ·refine ab ?_
      refine aW (v:=.bool true) rfl rfl ⟨⟨true,rfl,fU ⟨by omega,by omega,fun i hi=>qK i om,qzc,qzd,fun i hi=>bW i om⟩⟩,hw.tail⟩
theorem wB {w0:World}{a b:Value}{vars s:List Int}(ha:RS aa w0 a vars) (hb:RS aa w0 b s) :
  Calls Tryz.prog 33 #[a,b] w0 fun e w'=>(∃ r,e=.returned (.bool r)/\(r=true↔Ac vars s))/\Sat w0 w' []:=by
 have ir:=ha.bo;have nO:=hb.bo;have hw:=Sat.start w0;refine bn (args:=[a,b]) mixed Tryz.func33 ?_;refine ab ?_;refine ai ?_ ?_<;>intro h0
 ·refine ab ?_
  refine aW (v:=.bool false) rfl rfl ⟨⟨false,rfl,dr fun h=>?_⟩,hw⟩;exact absurd (by have:=h.1;omega) h0
 ·refine ab ?_
  refine cd [4,6,14,29] (G:=Nat) (fun k=>[(14,.int .i64 k)]) (fun k w=>k<=s.length/\(∀ i,i<k->0<=s.getD i aa.dflt/\s.getD i aa.dflt<vars.getD i aa.dflt)/\Sat w0 w []) (fun k=>s.length-k) 0 (fun _=>rfl) ⟨rfl,trivial⟩ ⟨zero_le _,fun i hi=>absurd hi (not_lt_zero _),hw⟩ ?_;clear hw;rintro σ k w ⟨hk,aN,hw⟩;refine ab ?_;refine ai ?_ ?_<;>intro h1
  ·refine ab ?_
   refine ai ?_ ?_<;>intro h2
   ·refine ab ?_
    refine aW (v:=.bool false) rfl rfl ⟨⟨false,rfl,dr fun h=>?_⟩,hw⟩;have:=h.2 k om;omega
   ·refine ab ?_
    refine⟨k+1,⟨rfl,trivial⟩,aH,⟨by omega,fun i hi=>?_,hw⟩,by omega⟩;by_cases h:i=k
    ·subst h;omega
    ·exact aN i om
  ·refine ab ?_
   exact aW (v:=.bool true) rfl rfl ⟨⟨true,rfl,fU ⟨by omega,fun i hi=>aN i om⟩⟩,hw⟩
theorem qhb {w0:World}{a b:Value}{vars:List Int}{f:List Fact}(ha:RS aa w0 a vars) (hb:RS aq w0 b f) :
  Calls Tryz.prog 69 #[a,b] w0 fun e w'=>(∃ r,e=.returned (.bool r)/\(r=true↔Ax vars f))/\Sat w0 w' []:=by
 have ir:=ha.bo;have nO:=hb.bo;have hw:=Sat.start w0;refine bn (args:=[a,b]) mixed Tryz.func69 ?_;refine ab ?_;refine dj [4,5,7,7,10,42] (G:=Nat) (H:=Int) (fun k l=>[(10,.int .i64 k),(5,.int .i64 l)]) (fun k l w=>k<=f.length /\ -1<=l/\(l=if k=0 then -1 else (f.getD (k-1) aq.dflt).var)/\(∀ i,i<k->Ao vars (f.getD i aq.dflt)/\(0<i->(f.getD (i-1) aq.dflt).var<(f.getD i aq.dflt).var))/\Sat w0 w []) (fun k l=>f.length-k) 0 (-1) (fun _ _=>rfl) ⟨rfl,rfl,trivial⟩ ⟨zero_le _,by omega,rfl,fun i hi=>absurd hi (not_lt_zero _),hw⟩ ?_;clear hw;rintro σ k l w ⟨hk,hl1,nW,aN,hw⟩;refine ab ?_;refine ai ?_ ?_<;>intro h1
 ·refine db ?_;intro p w hw
  refine ai ?_ ?_<;>intro h2
  ·refine ab ?_
   refine aW (v:=.bool false) rfl rfl ⟨⟨false,rfl,dr fun h=>?_⟩,hw.tail⟩;have:=h k om;unfold Ao at this;split at nW<;>omega
  ·refine ab ?_
   refine⟨k+1,_,⟨rfl,rfl,trivial⟩,aH,⟨by omega,by omega,by simp,fun i hi=>?_,hw.tail⟩,by omega⟩;by_cases h:i=k
   ·subst h
    unfold Ao;split at nW<;>omega
   ·exact aN i om
 ·refine ab ?_
  exact aW (v:=.bool true) rfl rfl ⟨⟨true,rfl,fU fun i hi=>aN i om⟩,hw⟩
theorem qhc {w0:World}{a b:Value}{f:List Fact}{s:List Int}(ha:RS aq w0 a f) (hb:RS aa w0 b s) :
  Calls Tryz.prog 137 #[a,b] w0 fun e w'=>(∃ r,e=.returned (.bool r)/\(r=true↔Aq s f))/\Sat w0 w' []:=by
 have ir:=ha.bo;have nO:=hb.bo;have hw:=Sat.start w0;refine bn (args:=[a,b]) mixed Tryz.func137 ?_;refine ab ?_;refine cd [4,4,6,6,9,33] (G:=Nat) (fun k=>[(9,.int .i64 k)]) (fun k w=>k<=f.length/\(∀ i,i<k->A4 s (f.getD i aq.dflt))/\Sat w0 w []) (fun k=>f.length-k) 0 (fun _=>rfl) ⟨rfl,trivial⟩ ⟨zero_le _,fun i hi=>absurd hi (not_lt_zero _),hw⟩ ?_;clear hw;rintro σ k w ⟨hk,aN,hw⟩;refine ab ?_;refine ai ?_ ?_<;>intro h1
 ·refine db ?_;intro p w hw
  refine ai ?_ ?_<;>intro h2
  ·refine ab ?_
   refine aW (v:=.bool false) rfl rfl ⟨⟨false,rfl,dr fun h=>?_⟩,hw.tail⟩;have:=h k om;unfold A4 at this;omega
  ·refine ab ?_
   refine⟨k+1,⟨rfl,trivial⟩,aH,⟨by omega,fun i hi=>?_,hw.tail⟩,by omega⟩;by_cases h:i=k
   ·subst h;unfold A4;omega
   ·exact aN i om
 ·refine ab ?_
  exact aW (v:=.bool true) rfl rfl ⟨⟨true,rfl,fU fun i hi=>aN i om⟩,hw⟩
theorem qic {w0:World}{a b:Value}{f:List Fact}{s:List Int}(ha:RS aq w0 a f) (hb:RS aa w0 b s) :
  Calls Tryz.prog 39 #[a,b] w0 fun e w'=>(∃ r,e=.returned (.bool r)/\(r=true↔Aq s f))/\Sat w0 w' []:=by
 have ir:=ha.bo;have nO:=hb.bo;have hw:=Sat.start w0;refine bn (args:=[a,b]) mixed Tryz.func39 ?_;refine ab ?_;refine cd [4,4,6,6,9,33] (G:=Nat) (fun k=>[(9,.int .i64 k)]) (fun k w=>k<=f.length/\(∀ i,i<k->A4 s (f.getD i aq.dflt))/\Sat w0 w []) (fun k=>f.length-k) 0 (fun _=>rfl) ⟨rfl,trivial⟩ ⟨zero_le _,fun i hi=>absurd hi (not_lt_zero _),hw⟩ ?_;clear hw;rintro σ k w ⟨hk,aN,hw⟩;refine ab ?_;refine ai ?_ ?_<;>intro h1
 ·refine db ?_;intro p w hw
  refine ai ?_ ?_<;>intro h2
  ·refine ab ?_
   refine aW (v:=.bool false) rfl rfl ⟨⟨false,rfl,dr fun h=>?_⟩,hw.tail⟩;have:=h k om;unfold A4 at this;omega
  ·refine ab ?_
   refine⟨k+1,⟨rfl,trivial⟩,aH,⟨by omega,fun i hi=>?_,hw.tail⟩,by omega⟩;by_cases h:i=k
   ·subst h;unfold A4;omega
   ·exact aN i om
 ·refine ab ?_
  exact aW (v:=.bool true) rfl rfl ⟨⟨true,rfl,fU fun i hi=>aN i om⟩,hw⟩
theorem qoY {w0:World}{b:ByteArray}(hb:b.size<=9223372036854775807) :
  Calls Tryz.prog 70 #[.string b] w0 fun e w'=>(∃ r,e=.returned (.bool r)/\(r=true↔BM b))/\Sat w0 w' []:=by
 have hw:=Sat.start w0;refine bn (args:=[.string b]) mixed Tryz.func70 ?_;refine ab ?_;refine cd [2,3,6,19] (G:=Nat) (fun k=>[(6,.int .i64 k)]) (fun k w=>k<=b.size/\(∀ i,i<k->32<=uO b i/\uO b i<=126)/\Sat w0 w []) (fun k=>b.size-k) 0 (fun _=>rfl) ⟨rfl,trivial⟩ ⟨zero_le _,fun i hi=>absurd hi (not_lt_zero _),hw⟩ ?_;clear hw;rintro σ k w ⟨hk,aN,hw⟩;refine ab ?_;refine ai ?_ ?_<;>intro h1
 ·refine ab ?_
  refine ai ?_ ?_<;>intro h2
  ·refine ab ?_
   refine aW (v:=.bool false) rfl rfl ⟨⟨false,rfl,dr fun h=>?_⟩,hw⟩;have:=h.2 k om;omega
  ·refine ab ?_
   refine⟨k+1,⟨rfl,trivial⟩,aH,⟨by omega,fun i hi=>?_,hw⟩,by omega⟩;by_cases h:i=k
   ·subst h;omega
   ·exact aN i om
 ·refine ab ?_
  refine aW (v:=.bool (decide ((b.size:Int)<=256))) rfl rfl ⟨⟨_,rfl,?_⟩,hw⟩;rw[decide_eq_true_eq];exact⟨fun h=>⟨by omega,fun i hi=>aN i om⟩,fun h=>by have:=h.1;omega⟩
def AP (w:World) (cs:List Value) (L:List (List Fact)):Prop:=cs.length=L.length/\∀ i,i<L.length->RS aq w (cU cs i) (L.getD i [])
theorem AP.snoc {w:World}{cs:List Value}{L:List (List Fact)}{v:Value}{f:List Fact}(h:AP w cs L) (hv:RS aq w v f):AP w (cs++[v]) (L++[f]):=by
 refine⟨by simp[h.1],fun i hi=>?_⟩;simp only[length_append,length_cons,length_nil]at hi;by_cases e:i<L.length
 ·have:=h.2 i e
  rw[ng]at this ⊢;simp only[getD_eq_getElem?_getD]at this ⊢;rw[getElem?_append_left (by rw[h.1];exact e),getElem?_append_left e];exact this
 ·have e2:i=L.length:=by omega
  subst e2;rw[ng];simp only[getD_eq_getElem?_getD];rw[getElem?_append_right (by rw[h.1];exact Nat.le_refl _),getElem?_append_right (Nat.le_refl _),h.1]
  simpa using hv
theorem AP.at {w0 w:World}{Γ:List HP}{cs:List Value}{L:List (List Fact)}(h:AP w0 cs L) (hw:Sat w0 w Γ):AP w cs L:=⟨h.1,fun i hi=>(h.2 i hi).at hw⟩
def gb (t:Aa) (k j:Nat):List (List Fact):=dU t k++(t.ops.getD k aO).pre::((t.ops.getD k aO).aw.take j).map (·.when)
theorem qlU (t:Aa) {k j:Nat}(hj:j<(t.ops.getD k aO).aw.length):gb t k (j+1)=gb t k j++[((t.ops.getD k aO).aw.getD j ba).when]:=by
 unfold gb;generalize t.ops.getD k aO=o at *
 rw[dJ ba hj];simp
theorem qoq (t:Aa) {k:Nat}(hk:k<t.ops.length):gb t k (t.ops.getD k aO).aw.length=dU t (k+1):=by
 rw[qgE t hk];unfold gb jW;generalize t.ops.getD k aO=o at *
 simp
theorem qor (t:Aa) {k j:Nat}(hj:j<=(t.ops.getD k aO).aw.length):(gb t k j).length=(dU t k).length+1+j:=by
 unfold gb;generalize t.ops.getD k aO=o at *
 simp;omega
theorem qdn {wb w0:World}{Γ:List HP}{a b c d:Value}{vs:List AK}{t:Aa}(htb:Am wb a b c d vs t) (hs:Sat wb w0 Γ) (hn:t.ops.length<=4096) (he:∀ i,i<t.ops.length->(t.ops.getD i aO).aw.length<=64) :
  Calls Tryz.prog 68 #[.agg #[a,b,c,d]] w0 fun e w'=>∃ s cs,e=.returned s/\AP wb cs (conds t)/\Sat w0 w' [OS al 23 s cs]:=by
 have uE:=htb.ops;have mY:=htb.goal;obtain⟨ha,hb,hc,hd⟩:=htb.at hs;have jx:=hd.rs;have jZ:=hd.len;have hw:=Sat.start w0;refine bn (args:=[.agg #[a,b,c,d]]) mixed Tryz.func68 ?_
 repeat (first|refine bV ?_|(refine dK ?_;clear hw;intro p w hw)|(refine cB ?_;clear hw;intro s w hw))
 obtain⟨pt,dO⟩:∃ pt,pt=p:=⟨p,rfl⟩
 subst dO;have lA:AP wb [c] (dU t 0):=by
  rw[qlK];refine⟨rfl,fun i hi=>?_⟩;simp at hi;subst hi;rw[ng]
  simpa using mY
 refine dj [3,3,5,5,7,7,14,36] (G:=Nat) (H:=Value × List Value) (fun k x=>[(14,.int .i64 k),(3,x.1)]) (fun k x w=>k<=t.ops.length/\AP wb x.2 (dU t k)/\Sat w0 w [OS al 23 x.1 x.2,Ad pt 26 [a,b,c,d]]) (fun k x=>t.ops.length-k) 0 (s,[c]) (fun _ _=>rfl) ⟨rfl,rfl,trivial⟩ ⟨zero_le _,lA,hw⟩ ?_;clear hw;rintro σ k ⟨s,cs⟩ w ⟨hk,jM,hw⟩;simp only at jM hw;have aK:=qe5 t k hk he;have eN:=jM.1;refine ab ?_;refine ai ?_ ?_<;>intro h1
 ·have bW:=hd.at_ k om
  have hone:=bW.one;have qxt:=uE.at_ k om;have xF:=qxt.pre;have aN:=bW.pre;obtain⟨es,wc⟩:=qxt.aw;have eE:=wc.at hs;have jP:=eE.rs;have la:=eE.len;have nr:=he k om
  repeat (first|refine bV ?_|(refine dK ?_;clear hw;intro p w hw)|(refine nL ?_;clear hw;intro w hw)|(refine cB ?_;clear hw;intro s w hw))
  have lz:AP wb (cs++[(az bJ vs k).pre]) (gb t k 0):=by
   have:=jM.snoc xF
   simpa [gb] using this
  refine dj [3,3,7,7,26,35] (G:=Nat) (H:=Value × List Value) (fun j x=>[(26,.int .i64 j),(3,x.1)]) (fun j x w=>j<=(t.ops.getD k aO).aw.length/\AP wb x.2 (gb t k j)/\Sat w0 w [OS al 23 x.1 x.2,Ad pt 26 [a,b,c,d]]) (fun j x=>(t.ops.getD k aO).aw.length-j) 0 (s,cs++[(az bJ vs k).pre]) (fun _ _=>rfl) ⟨rfl,rfl,trivial⟩ ⟨zero_le _,lz,hw.tail.tail⟩ ?_;clear hw jM eN lz;rintro σ1 j ⟨s2,cs2⟩ w ⟨hj,jM,hw⟩;simp only at jM hw;have cJ:=qor t hj;have eN:=jM.1;refine ab ?_;refine ai ?_ ?_<;>intro h2
  ·have hej:=eE.at_ j om
   have oE:=hej.one;have nR:=hej.when;have qxu:=(wc.at_ j om).when
   repeat (first|refine bV ?_|(refine dK ?_;clear hw;intro p w hw)|(refine nL ?_;clear hw;intro w hw)|(refine cB ?_;clear hw;intro s w hw))
   have hc3:=jM.snoc qxu;rw[<-qlU t om]at hc3;exact⟨j+1,(s,cs2++[(az aR es j).when]),⟨rfl,rfl,trivial⟩,aH,⟨by omega,hc3,hw.tail.tail⟩,by omega⟩
  ·have iR:j=(t.ops.getD k aO).aw.length:=by omega
   subst iR;rw[qoq t om]at jM;refine ab ?_;exact⟨k+1,(s2,cs2),⟨rfl,rfl,trivial⟩,aH,⟨by omega,jM,hw⟩,by omega⟩
 ·have cH:k=t.ops.length:=by omega
  subst cH;refine ab ?_;exact aW (v:=s) rfl rfl ⟨s,cs,rfl,jM,hw.only⟩
theorem qmf {w0:World}{a:Value}{f:List Fact}(ha:RS aq w0 a f) :
  Calls Tryz.prog 95 #[a] w0 fun e w'=>e=.returned (.bool (decide (64<(f.length:Int))))/\Sat w0 w' []:=by
 have ir:=ha.bo;have hw:=Sat.start w0;refine bn (args:=[a]) mixed Tryz.func95 ?_;refine ab ?_;exact aW (v:=.bool (decide (64<(f.length:Int)))) rfl rfl ⟨rfl,hw⟩
theorem qjq {w0:World}{a:Value}{cs:List Value}{L:List (List Fact)}(ha:RS al w0 a cs) (hL:AP w0 cs L) :
  Calls Tryz.prog 121 #[a,.func (.func 95) #[] #[]] w0 fun e w'=>(∃ r:Int,e=.returned (.int .i64 r)/\(0<=r↔∃ i,i<L.length/\64<(L.getD i []).length))/\Sat w0 w' []:=by
 have ir:=ha.bo;have eN:=hL.1;have hw:=Sat.start w0;refine bn (args:=[a,.func (.func 95) #[] #[]]) mixed Tryz.func121 ?_;refine ab ?_;refine cd [4,5,8,18] (G:=Nat) (fun k=>[(8,.int .i64 k)]) (fun k w=>k<=L.length/\(∀ i,i<k->(L.getD i []).length<=64)/\Sat w0 w []) (fun k=>L.length-k) 0 (fun _=>rfl) ⟨rfl,trivial⟩ ⟨zero_le _,fun i hi=>absurd hi (not_lt_zero _),hw⟩ ?_;clear hw;rintro σ k w ⟨hk,aN,hw⟩;refine ab ?_;refine ai ?_ ?_<;>intro h1
 ·refine ab ?_
  refine xq (cs:=[]) rfl rfl (qmf ((hL.2 k om).at hw)) ?_;rintro _ w' ⟨rfl,aj⟩;refine aC ?_;clear aj hw;intro hw;refine ab ?_;refine ai ?_ ?_<;>intro h2
  ·refine ab ?_
   exact aW (v:=.int .i64 k) rfl rfl ⟨⟨k,rfl,⟨fun _=>⟨k,by omega,by omega⟩,fun _=>by omega⟩⟩,hw⟩
  ·refine ab ?_
   refine⟨k+1,⟨rfl,trivial⟩,aH,⟨by omega,fun i hi=>?_,hw⟩,by omega⟩;by_cases h:i=k
   ·subst h;omega
   ·exact aN i om
 ·refine ab ?_
  refine aW (v:=.int .i64 (-1)) rfl rfl ⟨⟨-1,rfl,⟨fun h=>absurd h (by decide),fun⟨i,hi,hb⟩=>?_⟩⟩,hw⟩;have:=aN i om;omega
theorem qjr {w0:World}{a:Value}{cs:List Value}{L:List (List Fact)}(ha:RS al w0 a cs) (hL:AP w0 cs L) :
  Calls Tryz.prog 94 #[a,.func (.func 95) #[] #[]] w0 fun e w'=>(∃ r,e=.returned (.bool r)/\(r=true↔∃ i,i<L.length/\64<(L.getD i []).length))/\Sat w0 w' []:=by
 have hw:=Sat.start w0;refine bn (args:=[a,.func (.func 95) #[] #[]]) mixed Tryz.func94 ?_;refine ab ?_;refine aJ rfl (qjq (ha.at hw) (hL.at hw)) ?_;rintro _ w' ⟨⟨r,rfl,hr⟩,aj⟩;refine aC ?_;clear aj hw;intro hw;refine ab ?_;refine aW (v:=.bool (decide (0<=r))) rfl rfl ⟨⟨_,rfl,?_⟩,hw⟩;rw[decide_eq_true_eq,hr]
theorem qoW {w0:World}{a b c d:Value}{vs:List AK}{t:Aa}(ht:Am w0 a b c d vs t) :
  Calls Tryz.prog 67 #[.agg #[a,b,c,d]] w0 fun e w'=>(∃ r,e=.returned (.bool r)/\(r=true↔AM t))/\Sat w0 w' []:=by
 have eF:=ht;obtain⟨ha,hb,hc,hd⟩:=ht;have jx:=hd.rs;have jZ:=hd.len;have ir:=ha.bo;have jv:=jx.bo;have hw:=Sat.start w0;refine bn (args:=[.agg #[a,b,c,d]]) mixed Tryz.func67 ?_;refine db ?_;intro p w hw;refine ai ?_ ?_<;>intro h1
 ·refine ab ?_
  refine aW (v:=.bool true) rfl rfl ⟨⟨true,rfl,fU ?_⟩,hw.tail⟩;unfold AM;omega
 ·refine ab ?_
  obtain⟨pt,dO⟩:∃ pt,pt=p:=⟨p,rfl⟩
  subst dO;refine cd [2,2,4,4,18,26] (G:=Nat) (fun k=>[(18,.int .i64 k)]) (fun k w=>k<=t.ops.length/\(∀ i,i<k->(t.ops.getD i aO).aw.length<=64)/\Sat w0 w [Ad pt 26 [a,b,c,d]]) (fun k=>t.ops.length-k) 0 (fun _=>rfl) ⟨rfl,trivial⟩ ⟨zero_le _,fun i hi=>absurd hi (not_lt_zero _),hw⟩ ?_;clear hw;rintro σ k w ⟨hk,pj,hw⟩;refine ab ?_;refine ai ?_ ?_<;>intro h2
  ·have bW:=hd.at_ k om
   have hone:=bW.one;obtain⟨es,eE⟩:=bW.aw;have jP:=eE.rs;have la:=eE.len;have uA:=jP.bo;refine db ?_;intro p w hw;refine ai ?_ ?_<;>intro h3
   ·refine ab ?_
    refine aW (v:=.bool true) rfl rfl ⟨⟨true,rfl,fU (.inr (.inr (.inl ⟨k,by omega,by omega⟩)))⟩,hw.tail.tail⟩
   ·refine ab ?_
    refine⟨k+1,⟨rfl,trivial⟩,aH,⟨by omega,fun i hi=>?_,hw.tail⟩,by omega⟩;by_cases h:i=k
    ·subst h;omega
    ·exact pj i om
  ·refine ab ?_
   refine aJ rfl (qdn eF hw om (fun i hi=>pj i om)) ?_;rintro _ w' ⟨s,cs,rfl,jM,aj⟩;refine aA ?_;clear aj hw;intro hw;refine ab ?_;refine aJ rfl (qjr (a:=s) (aM hw) (jM.at hw)) ?_;rintro _ w' ⟨⟨r,rfl,hr⟩,aj⟩;refine aC ?_;clear aj hw;intro hw;refine ab ?_;refine aW (v:=.bool r) rfl rfl ⟨⟨r,rfl,hr.trans ⟨fun h=>.inr (.inr (.inr h)),fun h=>?_⟩⟩,hw.tail.tail⟩;rcases h with h|h|⟨i,hi,h⟩|h
   ·omega
   ·omega
   ·have:=pj i om;omega
   ·exact h
theorem qjQ {t:Aa}(h:AM t):bk t=5:=by simp[bk,h]
theorem qnS {t:Aa}(h1:¬AM t) (h2:¬BQ t):bk t=1:=by simp[bk,h1,h2]
theorem qlj {t:Aa}(h1:¬AM t) (h2:BQ t) (h3:¬Bo t):bk t=1:=by simp[bk,h1,h2,h3]
theorem qlk {t:Aa}(h1:¬AM t) (h2:BQ t) (h3:Bo t) (h4:¬Ac t.vars t.init):bk t=2:=by simp[bk,h1,h2,h3,h4]
theorem qll {t:Aa}(h1:¬AM t) (h2:BQ t) (h3:Bo t) (h4:Ac t.vars t.init) (h5:¬Bz t):bk t=2:=by simp[bk,h1,h2,h3,h4,h5]
theorem qnT {t:Aa}(h1:¬AM t) (h2:BQ t) (h3:Bo t) (h4:Ac t.vars t.init) (h5:Bz t) (h6:¬CA t):bk t=2:=by simp[bk,h1,h2,h3,h4,h5,h6]
theorem qlm {t:Aa}(h1:¬AM t) (h2:BQ t) (h3:Bo t) (h4:Ac t.vars t.init) (h5:Bz t) (h6:CA t) (h7:¬BR t):bk t=8:=by simp[bk,h1,h2,h3,h4,h5,h6,h7]
theorem qpx {t:Aa}(h1:¬AM t) (h2:BQ t) (h3:Bo t) (h4:Ac t.vars t.init) (h5:Bz t) (h6:CA t) (h7:BR t):bk t=0:=by simp[bk,h1,h2,h3,h4,h5,h6,h7]
theorem sH {w0:World}{a b c d:Value}{vs:List AK}{t:Aa}(ht:Am w0 a b c d vs t) :
  Calls Tryz.prog 42 #[.agg #[a,b,c,d]] w0 fun e w'=>e=.returned (bE (bk t))/\Sat w0 w' []:=by
 have eF:=ht;obtain⟨ha,hb,hc,hd⟩:=ht;have jx:=hd.rs;have jZ:=hd.len;have ir:=ha.bo;have jv:=jx.bo;have hw:=Sat.start w0;refine bn (args:=[.agg #[a,b,c,d]]) mixed Tryz.func42 ?_;refine db ?_;intro p w hw;obtain⟨pt,dO⟩:∃ pt,pt=p:=⟨p,rfl⟩
 subst dO;refine aJ rfl (qoW (eF.at hw)) ?_;rintro _ w' ⟨⟨r,rfl,hr⟩,aj⟩;refine aC ?_;clear aj hw;intro hw
 cases r with
 | true =>
  refine ab ?_
  exact aW (v:=.iface 57 (.int .i64 5)) rfl rfl ⟨by rw[qjQ (hr.1 rfl)];rfl,hw.tail⟩
 | false =>
  have h1:¬AM t:=fun h=>by have:=hr.2 h;cases this
  have h1a:t.ops.length<=4096:=Nat.le_of_not_lt fun h=>h1 (.inr (.inl h));have h1b:∀ i,i<t.ops.length->(t.ops.getD i aO).aw.length<=64:=fun i hi=>Nat.le_of_not_lt fun h=>h1 (.inr (.inr (.inl ⟨i,hi,h⟩)));refine ab ?_;refine cd [2,2,4,4,21,32] (G:=Nat) (fun k=>[(21,.int .i64 k)]) (fun k w=>k<=t.vars.length/\(∀ i,i<k->1<=t.vars.getD i aa.dflt/\t.vars.getD i aa.dflt<=64)/\Sat w0 w [Ad pt 26 [a,b,c,d]]) (fun k=>t.vars.length-k) 0 (fun _=>rfl) ⟨rfl,trivial⟩ ⟨zero_le _,fun i hi=>absurd hi (not_lt_zero _),hw⟩ ?_;clear hw;rintro σ k w ⟨hk,qK,hw⟩;refine ab ?_;refine ai ?_ ?_<;>intro h2
  ·refine ab ?_
   refine ai ?_ ?_<;>intro h3
   ·refine ab ?_
    have iM:¬BQ t:=fun h=>by have:=h k om;omega
    exact aW (v:=.iface 57 (.int .i64 1)) rfl rfl ⟨by rw[qnS h1 iM];rfl,hw.tail⟩
   ·refine ab ?_
    refine⟨k+1,⟨rfl,trivial⟩,aH,⟨by omega,fun i hi=>?_,hw⟩,by omega⟩;by_cases h:i=k
    ·subst h;omega
    ·exact qK i om
  ·have hD:BQ t:=fun i hi=>qK i om
   clear qK h2 hk;refine ab ?_;refine cd [2,2,6,6,36,49] (G:=Nat) (fun k=>[(36,.int .i64 k)]) (fun k w=>k<=t.ops.length/\(∀ i,i<k->0<=(t.ops.getD i aO).cost/\(t.ops.getD i aO).cost<=1048576)/\Sat w0 w [Ad pt 26 [a,b,c,d]]) (fun k=>t.ops.length-k) 0 (fun _=>rfl) ⟨rfl,trivial⟩ ⟨zero_le _,fun i hi=>absurd hi (not_lt_zero _),hw⟩ ?_;clear hw;rintro σ1 k w ⟨hk,gg,hw⟩;refine ab ?_;refine ai ?_ ?_<;>intro h2
   ·have bW:=hd.at_ k om
    have hone:=bW.one;have qwK:=bW.cost;refine db ?_;intro p w hw;refine ai ?_ ?_<;>intro h3
    ·refine ab ?_
     have iM:¬Bo t:=fun h=>by have:=h k om;omega
     exact aW (v:=.iface 57 (.int .i64 1)) rfl rfl ⟨by rw[qlj h1 hD iM];rfl,hw.tail.tail⟩
    ·refine ab ?_
     refine⟨k+1,⟨rfl,trivial⟩,aH,⟨by omega,fun i hi=>?_,hw.tail⟩,by omega⟩;by_cases h:i=k
     ·subst h;omega
     ·exact gg i om
   ·have hC:Bo t:=fun i hi=>gg i om
    clear gg h2 hk;refine ab ?_;refine aJ rfl (wB (a:=a) (b:=b) (ha.at hw) (hb.at hw)) ?_;rintro _ w' ⟨⟨r,rfl,lg⟩,aj⟩;refine aC ?_;clear aj hw;intro hw
    cases r with
    | false =>
     refine ab ?_;have iM:¬Ac t.vars t.init:=fun h=>by have:=lg.2 h;cases this
     exact aW (v:=.iface 57 (.int .i64 2)) rfl rfl ⟨by rw[qlk h1 hD hC iM];rfl,hw.tail⟩
    | true =>
     have hS:=lg.1 rfl;refine ab ?_;refine aJ rfl (qdn eF hw h1a h1b) ?_;rintro _ w' ⟨s,cs,rfl,jM,aj⟩;replace hw:=hw.jC aj;clear aj;have eN:=jM.1;have mY:=qe5 t t.ops.length (Nat.le_refl _) h1b;have hcd:(conds t).length=(dU t t.ops.length).length:=rfl;refine⟨_,rfl,?_⟩;refine ab ?_;refine cd [2,2,8,8,60,70] (G:=Nat) (fun k=>[(60,.int .i64 k)]) (fun k w=>k<=(conds t).length/\(∀ i,i<k->Ax t.vars ((conds t).getD i []))/\Sat w0 w [OS al 23 s cs,Ad pt 26 [a,b,c,d]]) (fun k=>(conds t).length-k) 0 (fun _=>rfl) ⟨rfl,trivial⟩ ⟨zero_le _,fun i hi=>absurd hi (not_lt_zero _),hw⟩ ?_;clear hw;rintro σ2 k w ⟨hk,uK,hw⟩;refine ab ?_;refine ai ?_ ?_<;>intro h2
     ·refine ab ?_
      refine aJ rfl (qhb (a:=a) (b:=cU cs k) (ha.at hw) ((jM.2 k om).at hw)) ?_;rintro _ w' ⟨⟨r,rfl,pN⟩,aj⟩;refine aC ?_;clear aj hw;intro hw
      cases r with
      | false =>
       refine ab ?_;have iM:¬Bz t:=fun h=>by have:=pN.2 (h k om);cases this
       exact aW (v:=.iface 57 (.int .i64 2)) rfl rfl ⟨by rw[qll h1 hD hC hS iM];rfl,hw.tail.tail⟩
      | true =>
       refine ab ?_;refine⟨k+1,⟨rfl,trivial⟩,aH,⟨by omega,fun i hi=>?_,hw⟩,by omega⟩;by_cases h:i=k
       ·subst h;exact pN.1 rfl
       ·exact uK i om
     ·have hK:Bz t:=fun i hi=>uK i om
      replace hw:=hw.tail;clear uK h2 hk eN jM;refine ab ?_;refine cd [2,2,10,10,12,12,74,97] (G:=Nat) (fun k=>[(74,.int .i64 k)]) (fun k w=>k<=t.ops.length/\(∀ i,i<k->∀ j,j<(t.ops.getD i aO).aw.length->Ax t.vars [⟨((t.ops.getD i aO).aw.getD j ba).var,((t.ops.getD i aO).aw.getD j ba).val⟩])/\Sat w0 w [Ad pt 26 [a,b,c,d]]) (fun k=>t.ops.length-k) 0 (fun _=>rfl) ⟨rfl,trivial⟩ ⟨zero_le _,fun i hi=>absurd hi (not_lt_zero _),hw⟩ ?_;clear hw;rintro σ3 k w ⟨hk,pj,hw⟩;refine ab ?_;refine ai ?_ ?_<;>intro h2
      ·have bW:=hd.at_ k om
       have hone:=bW.one;obtain⟨es,eE⟩:=bW.aw;have jP:=eE.rs;have la:=eE.len;have uA:=jP.bo;refine db ?_;intro p w hw;refine cd [2,2,12,12,81,96] (G:=Nat) (fun j=>[(81,.int .i64 j)]) (fun j w=>j<=(t.ops.getD k aO).aw.length/\(∀ i,i<j->Ax t.vars [⟨((t.ops.getD k aO).aw.getD i ba).var,((t.ops.getD k aO).aw.getD i ba).val⟩])/\Sat w0 w [Ad pt 26 [a,b,c,d]]) (fun j=>(t.ops.getD k aO).aw.length-j) 0 (fun _=>rfl) ⟨rfl,trivial⟩ ⟨zero_le _,fun i hi=>absurd hi (not_lt_zero _),hw.tail⟩ ?_;clear hw;rintro σ4 j w ⟨hj,hjf,hw⟩;refine ab ?_;refine ai ?_ ?_<;>intro h3
       ·have hej:=eE.at_ j om
        have oE:=hej.one;refine db ?_;intro p w hw;refine jh aq (x1:=⟨(az aR es j).var,(az aR es j).val⟩) rfl rfl rfl (le_of_ble_eq_true rfl) (zero_lt_succ _) hw ?_;clear hw;intro s w hw;refine ab ?_;refine aJ rfl (qhb (a:=a) (b:=s) (ha.at hw) (aM hw)) ?_;rintro _ w' ⟨⟨r,rfl,pN⟩,aj⟩;replace hw:=hw.bz aj;clear aj;rw[hej.var,hej.val]at pN;refine⟨_,rfl,?_⟩
        cases r with
        | false =>
         refine ab ?_;have iM:¬CA t:=fun h=>by have:=pN.2 (h k om j om);cases this
         exact aW (v:=.iface 57 (.int .i64 2)) rfl rfl ⟨by rw[qnT h1 hD hC hS hK iM];rfl,hw.tail.tail.tail⟩
        | true =>
         refine ab ?_;refine⟨j+1,⟨rfl,trivial⟩,aH,⟨by omega,fun i hi=>?_,hw.tail.tail⟩,by omega⟩;by_cases h:i=j
         ·subst h;exact pN.1 rfl
         ·exact hjf i om
       ·refine ab ?_
        refine⟨k+1,⟨rfl,trivial⟩,aH,⟨by omega,fun i hi=>?_,hw⟩,by omega⟩;by_cases h:i=k
        ·subst h;exact fun i' eO=>hjf i' om
        ·exact pj i om
      ·have hE:CA t:=fun i hi=>pj i om
       clear pj h2 hk;refine ab ?_;refine cd [2,2,14,14,101,110] (G:=Nat) (fun k=>[(101,.int .i64 k)]) (fun k w=>k<=t.ops.length/\(∀ i,i<k->BM (t.ops.getD i aO).name)/\Sat w0 w [Ad pt 26 [a,b,c,d]]) (fun k=>t.ops.length-k) 0 (fun _=>rfl) ⟨rfl,trivial⟩ ⟨zero_le _,fun i hi=>absurd hi (not_lt_zero _),hw⟩ ?_;clear hw;rintro σ4 k w ⟨hk,jH,hw⟩;refine ab ?_;refine ai ?_ ?_<;>intro h2
       ·have bW:=hd.at_ k om
        have hone:=bW.one;refine db ?_;intro p w hw;refine aJ rfl (qoY (b:=(az bJ vs k).name) (by rw[bW.name];exact bW.size)) ?_;rintro _ w' ⟨⟨r,rfl,pN⟩,aj⟩;replace hw:=hw.bz aj;clear aj;rw[bW.name]at pN;refine⟨_,rfl,?_⟩
        cases r with
        | false =>
         refine ab ?_;have iM:¬BR t:=fun h=>by have:=pN.2 (h k om);cases this
         exact aW (v:=.iface 57 (.int .i64 8)) rfl rfl ⟨by rw[qlm h1 hD hC hS hK hE iM];rfl,hw.tail.tail⟩
        | true =>
         refine ab ?_;refine⟨k+1,⟨rfl,trivial⟩,aH,⟨by omega,fun i hi=>?_,hw.tail⟩,by omega⟩;by_cases h:i=k
         ·subst h;exact pN.1 rfl
         ·exact jH i om
       ·refine ab ?_
        exact aW (v:=.nilIface) rfl rfl ⟨by rw[qpx h1 hD hC hS hK hE fun i hi=>jH i om];rfl,hw.tail⟩
theorem qn3 {xs ys:List Int}(hl:xs.length=ys.length) (h:∀ i,i<xs.length->xs.getD i aa.dflt=ys.getD i aa.dflt):xs=ys:=by
 apply ext_getElem hl;intro i h1 h2;have:=h i h1
 rwa[getD_at h1,getD_at h2]at this
theorem qwj {w0:World}{a b:Value}{xs ys:List Int}(ha:RS aa w0 a xs) (hb:RS aa w0 b ys) :
  Calls Tryz.prog 50 #[a,b] w0 fun e w'=>(∃ r,e=.returned (.bool r)/\(r=true↔xs=ys))/\Sat w0 w' []:=by
 have ir:=ha.bo;have nO:=hb.bo;have hw:=Sat.start w0;refine bn (args:=[a,b]) mixed Tryz.func50 ?_;refine ab ?_;refine ai ?_ ?_<;>intro h0
 ·refine ab ?_
  refine aW (v:=.bool false) rfl rfl ⟨⟨false,rfl,dr fun h=>?_⟩,hw⟩;subst h;omega
 ·refine ab ?_
  refine cd [4,5,13,25] (G:=Nat) (fun k=>[(13,.int .i64 k)]) (fun k w=>k<=xs.length/\(∀ i,i<k->xs.getD i aa.dflt=ys.getD i aa.dflt)/\Sat w0 w []) (fun k=>xs.length-k) 0 (fun _=>rfl) ⟨rfl,trivial⟩ ⟨zero_le _,fun i hi=>absurd hi (not_lt_zero _),hw⟩ ?_;clear hw;rintro σ k w ⟨hk,aN,hw⟩;refine ab ?_;refine ai ?_ ?_<;>intro h1
  ·refine fi ?_;intro w hw
   refine ai ?_ ?_<;>intro h2
   ·refine ab ?_
    refine aW (v:=.bool false) rfl rfl ⟨⟨false,rfl,dr fun h=>?_⟩,hw⟩;subst h;exact h2 rfl
   ·refine ab ?_
    refine⟨k+1,⟨rfl,trivial⟩,aH,⟨by omega,fun i hi=>?_,hw⟩,by omega⟩;by_cases h:i=k
    ·subst h;omega
    ·exact aN i om
  ·refine ab ?_
   exact aW (v:=.bool true) rfl rfl ⟨⟨true,rfl,fU (qn3 om fun i hi=>aN i om)⟩,hw⟩
theorem qpJ {n k m:Int}(hn:1<=n) (hk:1<=k) (hm:n<=m) (h0:m<=65536):let x:=n*(if m+1<(if 0>k then 0 else k) then m+1 else (if 0>k then 0 else k))
  0<=x/\x<=4295098368/\(x<=m->x=n*k)/\(m<x->m<n*k):=by
 intro x;have e:x=n*min k (m+1):=by
  show n*(if m+1<(if 0>k then 0 else k) then m+1 else (if 0>k then 0 else k))=_;have jb:(if 0>k then 0 else k)=k:=if_neg om;rw[jb];congr 1;split<;>omega
 have h2:n*min k (m+1)<=65536*65537:=Int.mul_le_mul om om om om;have h3:0<=n*min k (m+1):=Int.mul_nonneg om om;refine⟨by omega,by omega,fun h=>?_,fun h=>?_⟩
 ·rw[e]at h ⊢
  by_cases hh:k<=m+1
  ·rw[Int.min_eq_left hh]
  ·rw[Int.min_eq_right om]at h
   have:1*(m+1)<=n*(m+1):=Int.mul_le_mul_of_nonneg_right hn om;omega
 ·rw[e]at h
  have:n*min k (m+1)<=n*k:=Int.mul_le_mul_of_nonneg_left om om;omega
def mD (vars:List Int) (m:Int):Int:=if bK vars<=m then bK vars else m+1
theorem qk0 {w0:World}{a:Value}{vars:List Int}{m:Int}(ha:RS aa w0 a vars) (hp:∀ x∈vars,1<=x) (pD:1<=m) (j6:m<=65536) :
  Calls Tryz.prog 8 #[a,.int .i64 m] w0 fun e w'=>e=.returned (.int .i64 (mD vars m))/\Sat w0 w' []:=by
 have ir:=ha.bo;have hw:=Sat.start w0;refine bn (args:=[a,.int .i64 m]) mixed Tryz.func8 ?_;refine ab ?_;refine dj [4,5,7,7,10,26] (G:=Nat) (H:=Int) (fun k n=>[(10,.int .i64 k),(5,.int .i64 n)]) (fun k n w=>k<=vars.length/\n=bK (vars.take k)/\n<=m/\Sat w0 w []) (fun k _=>vars.length-k) 0 1 (fun _ _=>rfl) ⟨rfl,rfl,trivial⟩ ⟨zero_le _,rfl,pD,hw⟩ ?_;clear hw;rintro σ k n w ⟨hk,hn,jH,hw⟩;refine ab ?_;refine ai ?_ ?_<;>intro h1
 ·have aK:k<vars.length:=by omega
  have hx:=hp _ (bY aa.dflt aK);have ij:1<=n:=by rw[hn];exact wq fun x hx=>hp x (mem_of_mem_take hx)
  obtain⟨b0,b1,b2,b3⟩:=qpJ ij hx jH j6;have hs:bK (vars.take (k+1))=n*vars.getD k aa.dflt:=by rw[dJ aa.dflt aK,wu,hn]
  refine ab ?_;refine ai ?_ ?_<;>intro h2
  ·refine ab ?_
   refine aW (v:=.int .i64 (m+1)) rfl rfl ⟨?_,hw⟩;have h3:=b3 om;have h4:bK (vars.take (k+1))<=bK vars:=by
    have:=qhr (l:=vars.take (k+1)) (m:=vars.drop (k+1)) (fun x hx=>hp x (mem_of_mem_drop hx)) (fun x hx=>hp x (mem_of_mem_take hx))
    rwa[take_append_drop]at this
   rw[mD,if_neg om]
  ·refine ab ?_
   refine⟨k+1,_,⟨rfl,rfl,trivial⟩,aH,⟨by omega,?_,by omega,hw⟩,by omega⟩;rw[hs];exact b2 om
 ·refine ab ?_
  refine aW (v:=.int .i64 n) rfl rfl ⟨?_,hw⟩;rw[take_of_length_le om]at hn;rw[mD,<-hn,if_pos jH]
theorem qoK {w0:World}{a b c d:Value}{vs:List AK}{t:Aa}(ht:Am w0 a b c d vs t) :
  Calls Tryz.prog 18 #[.agg #[a,b,c,d]] w0 fun e w'=>(∃ r,e=.returned (.bool r)/\(r=true↔AB t))/\Sat w0 w' []:=by
 have eF:=ht;obtain⟨ha,hb,hc,hd⟩:=ht;have jx:=hd.rs;have jZ:=hd.len;have ir:=ha.bo;have jv:=jx.bo;have hw:=Sat.start w0;refine bn (args:=[.agg #[a,b,c,d]]) mixed Tryz.func18 ?_;refine db ?_;intro p w hw;refine ai ?_ ?_<;>intro h1
 ·refine ab ?_
  refine aW (v:=.bool false) rfl rfl ⟨⟨false,rfl,dr fun h=>?_⟩,hw.tail⟩;have:=h.vars;have:=h.ops;omega
 ·refine ab ?_
  obtain⟨pt,dO⟩:∃ pt,pt=p:=⟨p,rfl⟩
  subst dO;refine cd [2,2,4,4,18,26] (G:=Nat) (fun k=>[(18,.int .i64 k)]) (fun k w=>k<=t.ops.length/\(∀ i,i<k->(t.ops.getD i aO).aw.length<=8)/\Sat w0 w [Ad pt 26 [a,b,c,d]]) (fun k=>t.ops.length-k) 0 (fun _=>rfl) ⟨rfl,trivial⟩ ⟨zero_le _,fun i hi=>absurd hi (not_lt_zero _),hw⟩ ?_;clear hw;rintro σ k w ⟨hk,pj,hw⟩;refine ab ?_;refine ai ?_ ?_<;>intro h2
  ·have bW:=hd.at_ k om
   have hone:=bW.one;obtain⟨es,eE⟩:=bW.aw;have jP:=eE.rs;have la:=eE.len;have uA:=jP.bo;refine db ?_;intro p w hw;refine ai ?_ ?_<;>intro h3
   ·refine ab ?_
    refine aW (v:=.bool false) rfl rfl ⟨⟨false,rfl,dr fun h=>?_⟩,hw.tail.tail⟩;have:=h.aw k om;omega
   ·refine ab ?_
    refine⟨k+1,⟨rfl,trivial⟩,aH,⟨by omega,fun i hi=>?_,hw.tail⟩,by omega⟩;by_cases h:i=k
    ·subst h;omega
    ·exact pj i om
  ·refine ab ?_
   refine aJ rfl (qrQ (eF.at hw)) ?_;rintro _ w' ⟨⟨r,rfl,hr⟩,aj⟩;refine aC ?_;clear aj hw;intro hw
   cases r with
   | false =>
    refine ab ?_;refine aW (v:=.bool false) rfl rfl ⟨⟨false,rfl,dr fun h=>?_⟩,hw.tail⟩;have:=hr.2 h.cr
    cases this
   | true =>
    have hg:=hr.1 rfl;refine ab ?_;refine aJ rfl (qk0 (m:=512) (ha.at hw) hg.pos (by decide) (by decide)) ?_;rintro _ w' ⟨rfl,aj⟩;refine aC ?_;clear aj hw;intro hw;refine ab ?_;refine aW (v:=.bool (decide (mD t.vars 512<=512))) rfl rfl ⟨⟨_,rfl,?_⟩,hw.tail⟩;rw[decide_eq_true_eq,mD];constructor
    ·intro h
     exact⟨hg,by omega,by omega,fun i hi=>pj i om,by split at h<;>omega⟩
    ·intro h
     rw[if_pos h.many];exact h.many
theorem qoL {w0:World}{a b c d sv:Value}{vs:List AK}{t:Aa}{st:List Int}{op:Int}(ht:Am w0 a b c d vs t) (hs:RS aa w0 sv st) (hg:Af t) (br:Ac t.vars st) :
  Calls Tryz.prog 34 #[.agg #[a,b,c,d],sv,.int .i64 op] w0 fun e w'=>∃ r rv,e=.returned (.tuple #[rv,.bool r])/\(r=true↔0<=op/\op<t.ops.length/\A6 t st op.toNat)/\Sat w0 w' [OS aa 3 rv (if r then bm t st op.toNat else [])]:=by
 have eF:=ht;obtain⟨ha,hb,hc,hd⟩:=ht;have jx:=hd.rs;have jZ:=hd.len;have ir:=ha.bo;have jv:=jx.bo;have iL:=br.1;have eW:=hg.vars;have hw:=Sat.start w0;refine bn (args:=[.agg #[a,b,c,d],sv,.int .i64 op]) mixed Tryz.func34 ?_;refine db ?_;intro p w hw;obtain⟨pt,dO⟩:∃ pt,pt=p:=⟨p,rfl⟩
 subst dO;refine qo3 (fun h1=>?_) (fun h1=>?_)
 ·simp only[h1,rh,ri];(try simp only[beq_iff_eq,Bool.and_eq_true,Bool.or_eq_true,decide_eq_true_eq,decide_eq_false_iff_not,Bool.not_eq_true,Bool.not_eq_false,Bool.not_eq_eq_eq_not,Bool.not_true,Bool.not_false,Bool.and_eq_false_iff,Bool.or_eq_false_iff,bne_iff_ne,ne_eq,Int.not_lt,Int.not_le,Nat.not_lt,Nat.not_le]at h1)
  refine ab ?_;refine dz (v:=.slice none 0 0) (v':=.bool false) rfl rfl rfl ⟨false,_,rfl,dr fun h=>?_,hw.tail.nil⟩;omega
 ·simp only[h1,rh,ri];(try simp only[beq_iff_eq,Bool.and_eq_true,Bool.or_eq_true,decide_eq_true_eq,decide_eq_false_iff_not,Bool.not_eq_true,Bool.not_eq_false,Bool.not_eq_eq_eq_not,Bool.not_true,Bool.not_false,Bool.and_eq_false_iff,Bool.or_eq_false_iff,bne_iff_ne,ne_eq,Int.not_lt,Int.not_le,Nat.not_lt,Nat.not_le]at h1)
  have bW:=hd.at_ op.toNat om;have hone:=bW.one;obtain⟨es,eE⟩:=bW.aw;have jP:=eE.rs;have la:=eE.len;have uA:=jP.bo;have aN:=bW.pre;have da:=hg.op op.toNat om;have qwD:=da.aw;refine ab ?_;refine aJ rfl (qic (aN.at hw) (hs.at hw)) ?_;rintro _ w' ⟨⟨r,rfl,hr⟩,aj⟩;refine aC ?_;clear aj hw;intro hw
  cases r with
  | false =>
   refine ab ?_;refine dz (v:=.slice none 0 0) (v':=.bool false) rfl rfl rfl ⟨false,_,rfl,dr fun h=>?_,hw.tail.nil⟩;have:=hr.2 h.2.2
   cases this
  | true =>
   have kb:=hr.1 rfl;refine ab ?_;refine xO aa hw ?_;clear hw;intro s1 w hw;refine kq ?_;intro s w hw;obtain⟨out,pK⟩:∃ out,out=s:=⟨s,rfl⟩
   subst pK;rw[nil_append]at hw;refine cd [10,10,41,55] (G:=Nat) (fun k=>[(41,.int .i64 k)]) (fun k w=>k<=(t.ops.getD op.toNat aO).aw.length/\Sat w0 w [OS aa 3 out (dt st ((t.ops.getD op.toNat aO).aw.take k)),Ad pt 26 [a,b,c,d]]) (fun k=>(t.ops.getD op.toNat aO).aw.length-k) 0 (fun _=>rfl) ⟨rfl,trivial⟩ ⟨zero_le _,hw⟩ ?_;clear hw;rintro σ k w ⟨hk,hw⟩;refine ab ?_;refine ai ?_ ?_<;>intro h2
   ·have nr:=eE.at_ k om
    have nR:=nr.when;have oE:=nr.one;have jA:=nr.var;have pM:=nr.val;obtain⟨r1,r2,r3,r4⟩:=qB (da.dL k om);have ik:=z6 st ((t.ops.getD op.toNat aO).aw.take k) ((t.ops.getD op.toNat aO).aw.getD k ba);rw[<-dJ ba om]at ik;have l6:=qf0 st ((t.ops.getD op.toNat aO).aw.take k);refine db ?_;intro p w hw;refine aJ rfl (qic (nR.at hw) (hs.at hw)) ?_;rintro _ w' ⟨⟨r,rfl,lg⟩,aj⟩;refine aC ?_;clear aj hw;intro hw
    cases r with
    | false =>
     refine ab ?_;refine⟨k+1,⟨rfl,trivial⟩,aH,⟨by omega,?_⟩,by omega⟩;rw[ik,if_neg fun h=>by have:=lg.2 h;cases this]
     exact hw.tail
    | true =>
     refine fi ?_;intro w hw;refine⟨k+1,⟨rfl,trivial⟩,aH,⟨by omega,?_⟩,by omega⟩;rw[ik,if_pos (lg.1 rfl),<-jA,<-pM];exact hw.tail
   ·rw[take_of_length_le om]at hw
    refine ab ?_;exact dz (v:=out) (v':=.bool true) rfl rfl rfl ⟨true,_,rfl,fU ⟨by omega,by omega,kb⟩,hw.only⟩
theorem Ac.take {vars s:List Int}(h:Ac vars s) (k:Nat):Ac (vars.take k) (s.take k):=by
 refine⟨by simp[h.1],fun i hi=>?_⟩;simp only[length_take]at hi;have:=h.2 i om;simp only[getD_eq_getElem?_getD]at this ⊢
 rwa[getElem?_take_of_lt om,getElem?_take_of_lt om]
theorem qcs {l:List Int}(h:∀ x∈l,1<=x) (k:Nat):bK (l.take k)<=bK l:=by
 have:=qhr (l:=l.take k) (m:=l.drop k) (fun x hx=>h x (mem_of_mem_drop hx)) (fun x hx=>h x (mem_of_mem_take hx))
 rwa[take_append_drop]at this
theorem qhB {vars s:List Int}(h:Ac vars s) {k:Nat}(hk:k<s.length):cN (vars.take (k+1)) (s.take (k+1))=cN (vars.take k) (s.take k)*vars.getD k aa.dflt+s.getD k aa.dflt:=by
 rw[dJ aa.dflt hk,dJ aa.dflt (show k<vars.length by rw[<-h.1];exact hk),qeN (by simp[h.1])]
theorem qn4 {vars s:List Int}(h:Ac vars s) (hp:∀ x∈vars,1<=x) {k:Nat}(hk:k<s.length):0<=cN (vars.take k) (s.take k)*vars.getD k aa.dflt/\cN (vars.take k) (s.take k)*vars.getD k aa.dflt+s.getD k aa.dflt<bK vars:=by
 have h1:=(ya (h.take k)).1;have h2:=h.2 k hk;have h3:=(ya (h.take (k+1))).2;rw[qhB h hk]at h3;have h4:=qcs hp (k+1);exact⟨Int.mul_nonneg h1 om,by omega⟩
theorem qrC {w0:World}{a b:Value}{vars s:List Int}(ha:RS aa w0 a vars) (hb:RS aa w0 b s) (br:Ac vars s) (hp:∀ x∈vars,1<=x) (hB:bK vars<=1099511627776) :
  Calls Tryz.prog 22 #[a,b] w0 fun e w'=>e=.returned (.int .i64 (cN vars s))/\Sat w0 w' []:=by
 have ir:=ha.bo;have nO:=hb.bo;have hl:=br.1;have hw:=Sat.start w0;refine bn (args:=[a,b]) mixed Tryz.func22 ?_;refine ab ?_;refine dj [5,6,9,23] (G:=Nat) (H:=Int) (fun k n=>[(9,.int .i64 k),(5,.int .i64 n)]) (fun k n w=>k<=s.length/\n=cN (vars.take k) (s.take k)/\Sat w0 w []) (fun k _=>s.length-k) 0 0 (fun _ _=>rfl) ⟨rfl,rfl,trivial⟩ ⟨zero_le _,rfl,hw⟩ ?_;clear hw;rintro σ k n w ⟨hk,hn,hw⟩;refine ab ?_;refine ai ?_ ?_<;>intro h1
 ·have aK:k<s.length:=by omega
  obtain⟨b1,b2⟩:=qn4 br hp aK;have b3:=br.2 k aK;rw[<-hn]at b1 b2;refine fi ?_;intro w hw;refine⟨k+1,_,⟨rfl,rfl,trivial⟩,aH,⟨by omega,?_,hw⟩,by omega⟩;rw[qhB br aK,hn]
 ·refine ab ?_
  refine aW (v:=.int .i64 n) rfl rfl ⟨?_,hw⟩;rw[hn,take_of_length_le om,take_of_length_le om]
end
end Go.Proofs.YtmapkjoefdgjfaaGreatDoor
