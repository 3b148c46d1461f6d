/-
  Several texts as one: WLmk1, WFrac, WFrac2, WFrac3.
-/
import Derived.Test.YtdadmnlenbdfbaaGreatMW1
import Derived.Test.YtdadmnlenbdfbaaGreatMW3
import Derived.Test.YtdadmnlenbdfbaaGreatMW17
import Derived.Test.YtdadmnlenbdfbaaGreatMSlB
import Derived.Test.YtdadmnlenbdfbaaGreatMTA
import Derived.Test.YtdadmnlenbdfbaaGreatMSlA
set_option linter.unusedSimpArgs false
set_option linter.unusedVariables false
/-
  Contracts of landmark's has, all, nothing; the finder as it is read.
-/
namespace Go.Proofs.YtdadmnlenbdfbaaGreat
open Go.Sl Go
attribute [local irreducible] vc opsW opsD opV opW PureV ReadV Thn Blk
structure LUV where
 op:Int
 needs:Value
 makes:Fact
def tLU:Ty LUV:=⟨4,fun x=>[.int .i64 x.op,x.needs,.int .i64 x.makes.var,.int .i64 x.makes.val],fun _=>rfl,⟨0,.slice none 0 0,⟨0,0⟩⟩⟩
instance inLmk1:ShutT tLU:=⟨trivial⟩
def dLUn:LUn:=⟨0,[],⟨0,0⟩⟩
def LuOk (w:World) (v:LUV) (u:LUn):Prop:=v.op=(u.op:Int)∧v.makes=u.makes∧RS tFact w v.needs u.needs
def LuF (us:List LUV) (U:List LUn) (w:World):Prop:=∀ i:Nat,i<U.length→LuOk w (eget tLU us i) (U.getD i dLUn)
theorem LuF.at {w0 w:World}{Γ:List HP}{us:List LUV}{U:List LUn}(h:LuF us U w0) (hw:Sat w0 w Γ):LuF us U w:=fun i hi=>by
 obtain⟨h1,h2,h3⟩:=h i hi
 exact⟨h1,h2,h3.at hw⟩
theorem LuF.snoc {w:World}{us:List LUV}{U:List LUn}{v:LUV}{u:LUn}(h:LuF us U w) (hl:us.length=U.length) (h2:LuOk w v u):LuF (us++[v]) (U++[u]) w:=fun i hi=>by
 rw [List.length_append,List.length_singleton] at hi
 by_cases e:i=U.length
 ·subst e
  have e1:eget tLU (us++[v]) U.length=v:=by rw [qaA,List.getD,←hl,List.getElem?_append_right (Nat.le_refl _),Nat.sub_self];rfl
  have e2:(U++[u]).getD U.length dLUn=u:=by rw [List.getD,List.getElem?_append_right (Nat.le_refl _),Nat.sub_self];rfl
  rw [e1,e2];exact h2
 ·have e1:eget tLU (us++[v]) i=eget tLU us i:=by rw [qaA,qaA,List.getD,List.getElem?_append_left (by omega)];rfl
  have e2:(U++[u]).getD i dLUn=U.getD i dLUn:=by rw [List.getD,List.getElem?_append_left (by omega)];rfl
  rw [e1,e2];exact h i (by omega)
structure FinR (w:World) (pr:Addr) (t:TTask) (a gv cv lv:Value) (us:List LUV):Prop where
 box:BoxR w pr [a,gv,cv,lv]
 vars:RS tInt w a t.vars
 goal:RS tFact w gv t.goal
 costs:RS tInt w cv (costsT t)
 list:RS tLU w lv us
 len:us.length=(unF t).length
 un:LuF us (unF t) w
theorem FinR.at {w0 w:World}{Γ:List HP}{pr:Addr}{t:TTask}{a gv cv lv:Value}{us:List LUV}(h:FinR w0 pr t a gv cv lv us) (hw:Sat w0 w Γ):FinR w pr t a gv cv lv us:=⟨h.box.at hw,h.vars.at hw,h.goal.at hw,h.costs.at hw,h.list.at hw,h.len,h.un.at hw⟩
theorem qi6 {t:TTask}(hg:GoodT t) {u:LUn}(hu:u∈unF t):u.op<t.ops.length∧FactOk t.vars u.makes∧∀ f∈u.needs,FactOk t.vars f:=by
 obtain⟨k,j,hk,hj,rfl⟩:=qgG.1 hu
 exact⟨hk,qlp hg hk hj,qhu hg hk hj⟩
structure RBm (w:World) (v:Value) (ss:List Value) (F:List (List Bool)):Prop where
 rs:RS tVal w v ss
 len:ss.length=F.length
 row:∀ i,i<F.length→RS tBool w (vget ss i) (F.getD i [])
theorem qi7 {F:List (List Bool)}{l:List Fact}{k:Nat}(h:hasB F (l.take k)=true) (hk:k<l.length) (h2:atB F (l.getD k tFact.dflt)=true):hasB F (l.take (k+1))=true:=by
 unfold hasB at *
 rw [List.take_add_one,List.getElem?_eq_getElem hk,List.all_append,h]
 rw [qak hk] at h2
 simp [h2]
set_option maxRecDepth 8000 in
set_option maxHeartbeats 4000000 in
theorem qc7 {w0:World}{fv lv:Value}{ss:List Value}{F:List (List Bool)}{vars:List Int}{l:List Fact}(hF:RBm w0 fv ss F) (hs:ShpB vars F) (hl:RS tFact w0 lv l) (hok:∀ x∈l,FactOk vars x) :
  Calls Tryz.prog 64 #[fv,lv] w0 fun e w'=>e=.returned (.bool (hasB F l))∧Sat w0 w' []:=by
 obtain⟨hFr,hFl,hFo⟩:=hF
 have hll:=hl.big
 have hsl:=hs.len
 have hw:=Sat.start w0
 refine qaf (args:=[fv,lv]) mixed Tryz.func64 rfl (by kernel_rfl) (Nat.le_of_ble_eq_true rfl) ?_
 repeat (first|refine qac ?_|(refine qaa ?_;clear hw;intro p w hw)|(refine qad ?_;clear hw;intro w hw)|(refine qab ?_;clear hw;intro s w hw))
 refine qao [4,6,9,10,11,12,13,14,15,16,17,18,19,20,21,22,23] (G:=Nat) (fun k=>[(9,.int .i64 k)]) (fun k w=>k≤l.length∧hasB F (l.take k)=true∧Sat w0 w []) (fun k=>l.length-k) 0 (fun _=>rfl) ⟨rfl,trivial⟩ ⟨Nat.zero_le _,rfl,hw⟩ ?_
 clear hw
 rintro σ k w ⟨hk,hp,hw⟩
 repeat (first|refine qac ?_|(refine qaa ?_;clear hw;intro p w hw)|(refine qad ?_;clear hw;intro w hw)|(refine qab ?_;clear hw;intro s w hw))
 refine go_if (fun h1 => ?_) (fun h1 => ?_)
 ·have hkl:k<l.length:=by omega
  have hm:=qan tFact.dflt hkl
  obtain⟨x1,x2,x3,x4⟩:=qcs (hok _ hm)
  have hro:=hFo (l.getD k tFact.dflt).var.toNat (by omega)
  have hrl:=hs.row _ x2
  repeat (first|refine qac ?_|(refine qaa ?_;clear hw;intro p w hw)|(refine qad ?_;clear hw;intro w hw)|(refine qab ?_;clear hw;intro s w hw))
  by_cases hc:atB F (l.getD k tFact.dflt)=true
  ·have hc':(F.getD (l.getD k tFact.dflt).var.toNat []).getD (l.getD k tFact.dflt).val.toNat tBool.dflt=true:=hc
   rw [hc']
   repeat (first|refine qac ?_|(refine qaa ?_;clear hw;intro p w hw)|(refine qad ?_;clear hw;intro w hw)|(refine qab ?_;clear hw;intro s w hw))
   exact⟨k+1,⟨rfl,trivial⟩,agr,⟨by omega,qi7 hp hkl hc,hw.sel⟩,by omega⟩
  ·have hc':(F.getD (l.getD k tFact.dflt).var.toNat []).getD (l.getD k tFact.dflt).val.toNat tBool.dflt=false:=Bool.eq_false_iff.2 hc
   rw [hc']
   repeat (first|refine qac ?_|(refine qaa ?_;clear hw;intro p w hw)|(refine qad ?_;clear hw;intro w hw)|(refine qab ?_;clear hw;intro s w hw))
   have hf:hasB F l=false:=by
    cases hh:hasB F l with
    | false=>rfl
    | true=>exact absurd (List.all_eq_true.1 hh _ hm) hc
   exact qai (v:=.bool false) rfl rfl ⟨by rw [hf],hw.sel⟩
 rw [List.take_of_length_le (by omega)] at hp
 repeat (first|refine qac ?_|(refine qaa ?_;clear hw;intro p w hw)|(refine qad ?_;clear hw;intro w hw)|(refine qab ?_;clear hw;intro s w hw))
 exact qai (v:=.bool true) rfl rfl ⟨by rw [hp],hw.sel⟩
set_option maxRecDepth 8000 in
theorem qfw {w0:World} :
  Calls Tryz.prog 63 #[] w0 fun e w'=>e=.returned (.agg #[.int .i64 (-1),.int .i64 (-1)])∧Sat w0 w' []:=by
 have hw:=Sat.start w0
 refine qaf (args:=[]) mixed Tryz.func63 rfl (by kernel_rfl) (Nat.le_of_ble_eq_true rfl) ?_
 repeat (first|refine qac ?_|(refine qaa ?_;clear hw;intro p w hw)|(refine qad ?_;clear hw;intro w hw)|(refine qab ?_;clear hw;intro s w hw))
 exact qbK (p:=p) (vs:=[.int .i64 (-1),.int .i64 (-1)]) rfl rfl rfl (hw.boxR 0 rfl) ⟨rfl,hw.sel⟩
def allK (vars:List Int) (v:Nat):List Fact:=(List.range v).flatMap fun v=>allV (vars.getD v tInt.dflt).toNat v
theorem qfK (vars:List Int) (v:Nat):allK vars (v+1)=allK vars v++allV (vars.getD v tInt.dflt).toNat v:=by
 unfold allK;rw [List.range_succ,List.flatMap_append];simp
theorem qi8 (n v:Nat):allV (n+1) v=allV n v++[⟨(v:Int),(n:Int)⟩]:=by
 unfold allV;rw [List.range_succ,List.map_append];rfl
theorem qdH {vars:List Int}(hd:∀ i,i<vars.length→vars.getD i tInt.dflt≤64):∀ v,v≤vars.length→(allK vars v).length≤64*v
 | 0,_=>by simp [allK]
 | v+1,h=>by
  have:=qdH hd v (by omega)
  have h2:=hd v (by omega)
  rw [qfK,List.length_append]
  have:(allV (vars.getD v tInt.dflt).toNat v).length=(vars.getD v tInt.dflt).toNat:=by simp [allV]
  omega
set_option maxRecDepth 8000 in
set_option maxHeartbeats 4000000 in
theorem qj4 {w0:World}{pr:Addr}{t:TTask}{a gv cv lv:Value}{us:List LUV}(hr:FinR w0 pr t a gv cv lv us) (hg:GoodT t) :
  Calls Tryz.prog 65 #[.pointer (some pr)] w0 fun e w'=>∃ ov,e=.returned ov∧Sat w0 w' [OS tFact 73 ov (allF t.vars)]:=by
 obtain⟨hb,hv,_,_,_,_,_⟩:=hr
 have hvl:=hg.vars
 have hw:=Sat.start w0
 refine qaf (args:=[.pointer (some pr)]) mixed Tryz.func65 rfl (by kernel_rfl) (Nat.le_of_ble_eq_true rfl) ?_
 replace hw:=hw.nil (T:=tFact) (e:=73)
 repeat (first|refine qac ?_|(refine qaa ?_;clear hw;intro p w hw)|(refine qad ?_;clear hw;intro w hw)|(refine qab ?_;clear hw;intro s w hw))
 refine qat [3,4,5,6,12,13,14,15,16,17,18,19,20,21,22,23,24,25,26,27,28] (G:=Nat) (H:=Value) (fun k ov=>[(12,.int .i64 k),(3,ov)]) (fun k ov w=>k≤t.vars.length∧Sat w0 w [OS tFact 73 ov (allK t.vars k)]) (fun k _=>t.vars.length-k) 0 (.slice none 0 0) (fun _ _=>rfl) ⟨rfl,rfl,trivial⟩ ⟨Nat.zero_le _,hw⟩ ?_
 clear hw
 rintro σ k ov w ⟨hk,hw⟩
 repeat (first|refine qac ?_|(refine qaa ?_;clear hw;intro p w hw)|(refine qad ?_;clear hw;intro w hw)|(refine qab ?_;clear hw;intro s w hw))
 refine go_if (fun h1 => ?_) (fun h1 => ?_)
 ·have hkl:k<t.vars.length:=by omega
  have hdk:=hg.dom k hkl
  have hal:=qdH (fun i hi=>(hg.dom i hi).2) k hk
  obtain⟨n,hn⟩:∃ n:Nat,t.vars.getD k tInt.dflt=(n:Int):=⟨(t.vars.getD k tInt.dflt).toNat,by omega⟩
  repeat (first|refine qac ?_|(refine qaa ?_;clear hw;intro p w hw)|(refine qad ?_;clear hw;intro w hw)|(refine qab ?_;clear hw;intro s w hw))
  rw [hn]
  refine qat [3,6,18,19,20,21,22,23,24,25,26,27] (G:=Nat) (H:=Value) (fun x ov=>[(18,.int .i64 x),(3,ov)]) (fun x ov w=>x≤n∧Sat w0 w [OS tFact 73 ov (allK t.vars k++allV x k)]) (fun x _=>n-x) 0 ov (fun _ _=>rfl) ⟨rfl,rfl,trivial⟩ ⟨Nat.zero_le _,by simpa [allV] using hw⟩ ?_
  clear hw
  rintro σ1 x ov2 w ⟨hx,hw⟩
  have hl2:(allK t.vars k++allV x k).length=(allK t.vars k).length+x:=by simp [allV]
  repeat (first|refine qac ?_|(refine qaa ?_;clear hw;intro p w hw)|(refine qad ?_;clear hw;intro w hw)|(refine qab ?_;clear hw;intro s w hw))
  refine go_if (fun h2 => ?_) (fun h2 => ?_)
  ·have hxn:x<n:=by omega
   repeat (first|refine qac ?_|(refine qaa ?_;clear hw;intro p w hw)|(refine qad ?_;clear hw;intro w hw)|(refine qab ?_;clear hw;intro s w hw))
   refine qal tFact (x1:=⟨(k:Int),(x:Int)⟩) rfl rfl rfl (Nat.le_of_ble_eq_true rfl) (Nat.zero_lt_succ _) hw ?_
   clear hw
   intro sl w hw
   repeat (first|refine qac ?_|(refine qaa ?_;clear hw;intro p w hw)|(refine qad ?_;clear hw;intro w hw)|(refine qab ?_;clear hw;intro s w hw))
   rw [List.append_assoc,←qi8] at hw
   exact⟨x+1,_,⟨rfl,rfl,trivial⟩,agr,⟨by omega,hw.tail⟩,by omega⟩
  have hxe:x=n:=by omega
  have e1:allK t.vars (k+1)=allK t.vars k++allV x k:=by rw [qfK,hn,hxe];rfl
  rw [←e1] at hw
  repeat (first|refine qac ?_|(refine qaa ?_;clear hw;intro p w hw)|(refine qad ?_;clear hw;intro w hw)|(refine qab ?_;clear hw;intro s w hw))
  exact⟨k+1,_,⟨rfl,rfl,trivial⟩,agr,⟨by omega,hw⟩,by omega⟩
 have hke:k=t.vars.length:=by omega
 subst hke
 repeat (first|refine qac ?_|(refine qaa ?_;clear hw;intro p w hw)|(refine qad ?_;clear hw;intro w hw)|(refine qab ?_;clear hw;intro s w hw))
 exact qai (v:=ov) rfl rfl ⟨ov,rfl,hw⟩
end Go.Proofs.YtdadmnlenbdfbaaGreat
/-
  Contracts of fraction.gcd, abs, New and times.
-/
namespace Go.Proofs.YtdadmnlenbdfbaaGreat
open Go.Sl Go
attribute [local irreducible] vc opsW opsD opV opW PureV ReadV Thn Blk
theorem qkE {x y:Int}(hx:0≤x) (hy:0≤y):Int.gcd y (x % y)=Int.gcd x y:=by
 obtain⟨a,rfl⟩:=Int.eq_ofNat_of_zero_le hx
 obtain⟨b,rfl⟩:=Int.eq_ofNat_of_zero_le hy
 rw [←Int.natCast_emod,Int.gcd_natCast_natCast,Int.gcd_natCast_natCast,Nat.gcd_comm,←Nat.gcd_rec,Nat.gcd_comm]
set_option maxRecDepth 8000 in
set_option maxHeartbeats 4000000 in
theorem qc8 {w0:World}{a b:Int}(ha:0≤a) (hb:0≤b) (ha1:a≤9223372036854775807) (hb1:b≤9223372036854775807) :
  Calls Tryz.prog 82 #[.int .i64 a,.int .i64 b] w0 fun e w'=>e=.returned (.int .i64 ((Int.gcd a b:Nat):Int))∧Sat w0 w' []:=by
 have hw:=Sat.start w0
 refine qaf (args:=[.int .i64 a,.int .i64 b]) mixed Tryz.func82 rfl (by kernel_rfl) (Nat.le_of_ble_eq_true rfl) ?_
 repeat (first|refine qac ?_|(refine qaa ?_;clear hw;intro p w hw)|(refine qad ?_;clear hw;intro w hw)|(refine qab ?_;clear hw;intro s w hw))
 refine qat [0,1,5,6,7,8,9,10] (G:=Int) (H:=Int) (fun x y=>[(0,.int .i64 x),(1,.int .i64 y)]) (fun x y w=>0≤x∧0≤y∧x≤9223372036854775807∧y≤9223372036854775807∧Int.gcd x y=Int.gcd a b∧Sat w0 w []) (fun _ y=>y.toNat) a b (fun _ _=>rfl) ⟨rfl,rfl,trivial⟩ ⟨ha,hb,ha1,hb1,rfl,hw⟩ ?_
 clear hw
 rintro σ3 x y w ⟨hx,hy,hx1,hy1,he,hw⟩
 repeat (first|refine qac ?_|(refine qaa ?_;clear hw;intro p w hw)|(refine qad ?_;clear hw;intro w hw)|(refine qab ?_;clear hw;intro s w hw))
 refine go_if (fun h2 => ?_) (fun h2 => ?_)
 ·have hyp:0<y:=by omega
  have h3:x.tmod y=x % y:=Int.tmod_eq_emod_of_nonneg hx
  have h4:=Int.emod_nonneg x (show y≠0 by omega)
  have h5:=Int.emod_lt_of_pos x hyp
  repeat (first|refine qac ?_|(refine qaa ?_;clear hw;intro p w hw)|(refine qad ?_;clear hw;intro w hw)|(refine qab ?_;clear hw;intro s w hw))
  refine⟨y,x.tmod y,⟨rfl,rfl,trivial⟩,agr,⟨by omega,by omega,by omega,by omega,?_,hw⟩,by omega⟩
  rw [h3,←he]
  exact qkE hx hy
 have hy0:y=0:=by omega
 subst hy0
 repeat (first|refine qac ?_|(refine qaa ?_;clear hw;intro p w hw)|(refine qad ?_;clear hw;intro w hw)|(refine qab ?_;clear hw;intro s w hw))
 have h6:((Int.gcd a b:Nat):Int)=x:=by rw [←he,Int.gcd_zero_right];omega
 exact qai (v:=.int .i64 x) rfl rfl ⟨by rw [h6],hw⟩
set_option maxRecDepth 8000 in
set_option maxHeartbeats 4000000 in
theorem qa2 {w0:World}{n:Int}(h0 : -9223372036854775807≤n) (h1:n≤9223372036854775807) :
  Calls Tryz.prog 83 #[.int .i64 n] w0 fun e w'=>e=.returned (.int .i64 (n.natAbs:Int))∧Sat w0 w' []:=by
 have hw:=Sat.start w0
 refine qaf (args:=[.int .i64 n]) mixed Tryz.func83 rfl (by kernel_rfl) (Nat.le_of_ble_eq_true rfl) ?_
 repeat (first|refine qac ?_|(refine qaa ?_;clear hw;intro p w hw)|(refine qad ?_;clear hw;intro w hw)|(refine qab ?_;clear hw;intro s w hw))
 have h6:(n.natAbs:Int)=if 0-n>n then 0-n else n:=by split <;> omega
 exact qai (v:=.int .i64 (if 0-n>n then 0-n else n)) rfl rfl ⟨by rw [h6],hw⟩
end Go.Proofs.YtdadmnlenbdfbaaGreat
/-
  Contract of fraction.New.
-/
namespace Go.Proofs.YtdadmnlenbdfbaaGreat
open Go.Sl Go
attribute [local irreducible] vc opsW opsD opV opW PureV ReadV Thn Blk
def frcV (f:Frc):Value:=.agg #[.int .i64 f.num,.int .i64 f.den]
def newC (a b:Int):Int × Frc:=if b=0 then (22,⟨0,0⟩) else newF a b
def newN (n d:Int):Int × Frc:=if 1099511627776<(n / (Int.gcd n d:Int)).natAbs∨1048576<d / (Int.gcd n d:Int) then (5,⟨0,0⟩) else (0,⟨n / (Int.gcd n d:Int),d / (Int.gcd n d:Int)⟩)
set_option maxRecDepth 8000 in
set_option maxHeartbeats 4000000 in
theorem qbF {w0:World}{a b:Int}(ha0 : -9223372036854775807≤a) (ha1:a≤9223372036854775807) (hb0 : -9223372036854775807≤b) (hb1:b≤9223372036854775807) :
  Calls Tryz.prog 70 #[.int .i64 a,.int .i64 b] w0 fun e w'=>e=.returned (.tuple #[frcV (newC a b).2,errV (newC a b).1])∧Sat w0 w' []:=by
 have hw:=Sat.start w0
 obtain⟨R,hR⟩:∃ R,R=newC a b:=⟨_,rfl⟩
 rw [←hR]
 refine qaf (args:=[.int .i64 a,.int .i64 b]) mixed Tryz.func70 rfl (by kernel_rfl) (Nat.le_of_ble_eq_true rfl) ?_
 repeat (first|refine qac ?_|(refine qaa ?_;clear hw;intro p w hw)|(refine qad ?_;clear hw;intro w hw)|(refine qab ?_;clear hw;intro s w hw))
 refine go_if (fun h0 => ?_) (fun h0 => ?_)
 ·have e0:b=0:=by omega
  repeat (first|refine qac ?_|(refine qaa ?_;clear hw;intro p w hw)|(refine qad ?_;clear hw;intro w hw)|(refine qab ?_;clear hw;intro s w hw))
  refine qau (vs:=[]) (ls:=[]) rfl rfl rfl ?_
  repeat (first|refine qac ?_|(refine qaa ?_;clear hw;intro p w hw)|(refine qad ?_;clear hw;intro w hw)|(refine qab ?_;clear hw;intro s w hw))
  rw [newC,if_pos e0] at hR
  subst hR
  exact qar (p:=p) (vs:=[.int .i64 0,.int .i64 0]) rfl rfl rfl rfl (hw.boxR 0 rfl) ⟨rfl,hw.sel⟩
 have e0:b≠0:=by omega
 rw [newC,if_neg e0] at hR
 repeat (first|refine qac ?_|(refine qaa ?_;clear hw;intro p w hw)|(refine qae ?_;clear hw;intro w hw)|(refine qab ?_;clear hw;intro s w hw))
 repeat (first|refine qac ?_|(refine qaa ?_;clear hw;intro p w hw)|(refine qad ?_;clear hw;intro w hw)|(refine qab ?_;clear hw;intro s w hw))
 refine go_if (fun h5 => ?_) (fun h5 => ?_)
 ·exact absurd h5 (by omega)
 repeat (first|refine qac ?_|(refine qaa ?_;clear hw;intro p w hw)|(refine qad ?_;clear hw;intro w hw)|(refine qab ?_;clear hw;intro s w hw))
 refine go_if (fun h6 => ?_) (fun h6 => ?_)
 ·repeat (first|refine qac ?_|(refine qaa ?_;clear hw;intro p w hw)|(refine qad ?_;clear hw;intro w hw)|(refine qab ?_;clear hw;intro s w hw))
  replace hR:R=newN (0-a) (0-b):=by rw [hR];unfold newF newN;simp only [if_pos h6,Int.zero_sub]
  have y1 : -9223372036854775807≤0-a:=by omega
  have y2:0-a≤9223372036854775807:=by omega
  have y3:0<0-b:=by omega
  have y4:0-b≤9223372036854775807:=by omega
  generalize 0-a=n at *
  generalize 0-b=d at *
  refine qag rfl (qa2 (n:=n) (by omega) (by omega)) ?_
  rintro _ w' ⟨rfl,hk'⟩;replace hw:=hw.call0 hk';clear hk';refine⟨_,rfl,?_⟩
  repeat (first|refine qac ?_|(refine qaa ?_;clear hw;intro p w hw)|(refine qad ?_;clear hw;intro w hw)|(refine qab ?_;clear hw;intro s w hw))
  refine qag rfl (qc8 (a:=(n.natAbs:Int)) (b:=d) (by omega) (by omega) (by omega) (by omega)) ?_
  rintro _ w' ⟨rfl,hk'⟩;replace hw:=hw.call0 hk';clear hk';refine⟨_,rfl,?_⟩
  have hgg:Int.gcd (n.natAbs:Int) d=Int.gcd n d:=by simp [Int.gcd]
  rw [hgg]
  obtain⟨g,hg⟩:∃ g:Int,g=(Int.gcd n d:Int):=⟨_,rfl⟩
  rw [←hg]
  unfold newN at hR
  rw [←hg] at hR
  have hgp:0<g:=by
   have:=Int.gcd_pos_of_ne_zero_right n (show d≠0 by omega)
   omega
  have q1:n.tdiv g=n / g:=Int.tdiv_eq_ediv_of_dvd (by rw [hg];exact Int.gcd_dvd_left ..)
  have q2:d.tdiv g=d / g:=Int.tdiv_eq_ediv_of_dvd (by rw [hg];exact Int.gcd_dvd_right ..)
  repeat (first|refine qac ?_|(refine qaa ?_;clear hw;intro p w hw)|(refine qad ?_;clear hw;intro w hw)|(refine qab ?_;clear hw;intro s w hw))
  rw [←q1,←q2] at hR
  have q3:(n.tdiv g).natAbs≤n.natAbs:=by rw [q1];exact Int.natAbs_ediv_le_natAbs ..
  obtain⟨n2,hn2⟩:∃ x,x=n.tdiv g:=⟨_,rfl⟩
  obtain⟨d2,hd2⟩:∃ x,x=d.tdiv g:=⟨_,rfl⟩
  have q4:1≤d2∧d2≤d:=by
   rw [hd2,q2]
   refine⟨Int.le_ediv_of_mul_le hgp (by have:=Int.le_of_dvd y3 (show g ∣ d by rw [hg];exact Int.gcd_dvd_right ..);omega),Int.ediv_le_self _ (by omega)⟩
  refine qby [7,32,33,34,35,36,37,38] (G:=Addr) (fun x=>[(7,.pointer (some x))]) (fun x w=>Sat w0 w [Box x 146 [.int .i64 n2,.int .i64 d2],Box p 146 [.int .i64 0,.int .i64 0]]) (fun _=>rfl) ?_ ?_
  ·refine qbf (.step 0 [.op 0] (.step 1 [.op 1] (.step 2 [.op 2] (.step 3 [.op 3] (.step 4 [.op 4] (.step 5 [.op 5] (.alt 6 [.op 6] (.step 7 [.op 7] (.step 8 [.op 8] (.lin []))) (.alt 7 [.op 7] (.step 6 [.op 6] (.step 8 [.op 8] (.lin []))) (.stop))))))))) hw (by kernel_rfl) (by kernel_rfl) ?_;clear hw;intro w hw
   repeat (first|refine qac ?_|(refine qaa ?_;clear hw;intro p w hw)|(refine qae ?_;clear hw;intro w hw)|(refine qab ?_;clear hw;intro s w hw))
   refine qax ?_ (qax ?_ qaG)
   ·repeat (first|refine qac ?_|(refine qaa ?_;clear hw;intro p w hw)|(refine qae ?_;clear hw;intro w hw)|(refine qab ?_;clear hw;intro s w hw))
    rw [←hn2,←hd2] at hw
    exact⟨_,⟨rfl,trivial⟩,agr,hw⟩
   ·repeat (first|refine qac ?_|(refine qaa ?_;clear hw;intro p w hw)|(refine qae ?_;clear hw;intro w hw)|(refine qab ?_;clear hw;intro s w hw))
    rw [←hn2,←hd2] at hw
    exact⟨_,⟨rfl,trivial⟩,agr,hw⟩
  clear hw
  rintro σ x w hw
  rw [←hn2,←hd2] at hR
  repeat (first|refine qac ?_|(refine qaa ?_;clear hw;intro p w hw)|(refine qae ?_;clear hw;intro w hw)|(refine qab ?_;clear hw;intro s w hw))
  refine qag rfl (qa2 (n:=n2) (by omega) (by omega)) ?_
  rintro _ w' ⟨rfl,hk'⟩;replace hw:=hw.call0 hk';clear hk';refine⟨_,rfl,?_⟩
  repeat (first|refine qac ?_|(refine qaa ?_;clear hw;intro p w hw)|(refine qae ?_;clear hw;intro w hw)|(refine qab ?_;clear hw;intro s w hw))
  refine go_if (fun hc => ?_) (fun hc => ?_)
  ·repeat (first|refine qac ?_|(refine qaa ?_;clear hw;intro p w hw)|(refine qad ?_;clear hw;intro w hw)|(refine qab ?_;clear hw;intro s w hw))
   refine qau (vs:=[]) (ls:=[]) rfl rfl rfl ?_
   repeat (first|refine qac ?_|(refine qaa ?_;clear hw;intro p w hw)|(refine qad ?_;clear hw;intro w hw)|(refine qab ?_;clear hw;intro s w hw))
   rw [if_pos (by omega)] at hR
   subst hR
   exact qar (p:=p) (vs:=[.int .i64 0,.int .i64 0]) rfl rfl rfl rfl (hw.boxR 1 rfl) ⟨rfl,hw.sel⟩
  repeat (first|refine qac ?_|(refine qaa ?_;clear hw;intro p w hw)|(refine qad ?_;clear hw;intro w hw)|(refine qab ?_;clear hw;intro s w hw))
  rw [if_neg (by omega)] at hR
  subst hR
  exact qar (p:=p) (vs:=[.int .i64 n2,.int .i64 d2]) rfl rfl rfl rfl (hw.boxR 1 rfl) ⟨rfl,hw.sel⟩
 replace hR:R=newN a b:=by rw [hR];unfold newF newN;simp only [if_neg (show ¬b<0 by omega)]
 have y3:0<b:=by omega
 obtain⟨n,rfl⟩:∃ n,n=a:=⟨_,rfl⟩
 obtain⟨d,rfl⟩:∃ d,d=b:=⟨_,rfl⟩
 repeat (first|refine qac ?_|(refine qaa ?_;clear hw;intro p w hw)|(refine qad ?_;clear hw;intro w hw)|(refine qab ?_;clear hw;intro s w hw))
 refine qag rfl (qa2 (n:=n) (by omega) (by omega)) ?_
 rintro _ w' ⟨rfl,hk'⟩;replace hw:=hw.call0 hk';clear hk';refine⟨_,rfl,?_⟩
 repeat (first|refine qac ?_|(refine qaa ?_;clear hw;intro p w hw)|(refine qad ?_;clear hw;intro w hw)|(refine qab ?_;clear hw;intro s w hw))
 refine qag rfl (qc8 (a:=(n.natAbs:Int)) (b:=d) (by omega) (by omega) (by omega) (by omega)) ?_
 rintro _ w' ⟨rfl,hk'⟩;replace hw:=hw.call0 hk';clear hk';refine⟨_,rfl,?_⟩
 have hgg:Int.gcd (n.natAbs:Int) d=Int.gcd n d:=by simp [Int.gcd]
 rw [hgg]
 obtain⟨g,hg⟩:∃ g:Int,g=(Int.gcd n d:Int):=⟨_,rfl⟩
 rw [←hg]
 unfold newN at hR
 rw [←hg] at hR
 have hgp:0<g:=by
  have:=Int.gcd_pos_of_ne_zero_right n (show d≠0 by omega)
  omega
 have q1:n.tdiv g=n / g:=Int.tdiv_eq_ediv_of_dvd (by rw [hg];exact Int.gcd_dvd_left ..)
 have q2:d.tdiv g=d / g:=Int.tdiv_eq_ediv_of_dvd (by rw [hg];exact Int.gcd_dvd_right ..)
 repeat (first|refine qac ?_|(refine qaa ?_;clear hw;intro p w hw)|(refine qad ?_;clear hw;intro w hw)|(refine qab ?_;clear hw;intro s w hw))
 rw [←q1,←q2] at hR
 have q3:(n.tdiv g).natAbs≤n.natAbs:=by rw [q1];exact Int.natAbs_ediv_le_natAbs ..
 obtain⟨n2,hn2⟩:∃ x,x=n.tdiv g:=⟨_,rfl⟩
 obtain⟨d2,hd2⟩:∃ x,x=d.tdiv g:=⟨_,rfl⟩
 have q4:1≤d2∧d2≤d:=by
  rw [hd2,q2]
  refine⟨Int.le_ediv_of_mul_le hgp (by have:=Int.le_of_dvd y3 (show g ∣ d by rw [hg];exact Int.gcd_dvd_right ..);omega),Int.ediv_le_self _ (by omega)⟩
 refine qby [7,32,33,34,35,36,37,38] (G:=Addr) (fun x=>[(7,.pointer (some x))]) (fun x w=>Sat w0 w [Box x 146 [.int .i64 n2,.int .i64 d2],Box p 146 [.int .i64 0,.int .i64 0]]) (fun _=>rfl) ?_ ?_
 ·refine qbf (.step 0 [.op 0] (.step 1 [.op 1] (.step 2 [.op 2] (.step 3 [.op 3] (.step 4 [.op 4] (.step 5 [.op 5] (.alt 6 [.op 6] (.step 7 [.op 7] (.step 8 [.op 8] (.lin []))) (.alt 7 [.op 7] (.step 6 [.op 6] (.step 8 [.op 8] (.lin []))) (.stop))))))))) hw (by kernel_rfl) (by kernel_rfl) ?_;clear hw;intro w hw
  repeat (first|refine qac ?_|(refine qaa ?_;clear hw;intro p w hw)|(refine qae ?_;clear hw;intro w hw)|(refine qab ?_;clear hw;intro s w hw))
  refine qax ?_ (qax ?_ qaG)
  ·repeat (first|refine qac ?_|(refine qaa ?_;clear hw;intro p w hw)|(refine qae ?_;clear hw;intro w hw)|(refine qab ?_;clear hw;intro s w hw))
   rw [←hn2,←hd2] at hw
   exact⟨_,⟨rfl,trivial⟩,agr,hw⟩
  ·repeat (first|refine qac ?_|(refine qaa ?_;clear hw;intro p w hw)|(refine qae ?_;clear hw;intro w hw)|(refine qab ?_;clear hw;intro s w hw))
   rw [←hn2,←hd2] at hw
   exact⟨_,⟨rfl,trivial⟩,agr,hw⟩
 clear hw
 rintro σ x w hw
 rw [←hn2,←hd2] at hR
 repeat (first|refine qac ?_|(refine qaa ?_;clear hw;intro p w hw)|(refine qae ?_;clear hw;intro w hw)|(refine qab ?_;clear hw;intro s w hw))
 refine qag rfl (qa2 (n:=n2) (by omega) (by omega)) ?_
 rintro _ w' ⟨rfl,hk'⟩;replace hw:=hw.call0 hk';clear hk';refine⟨_,rfl,?_⟩
 repeat (first|refine qac ?_|(refine qaa ?_;clear hw;intro p w hw)|(refine qae ?_;clear hw;intro w hw)|(refine qab ?_;clear hw;intro s w hw))
 refine go_if (fun hc => ?_) (fun hc => ?_)
 ·repeat (first|refine qac ?_|(refine qaa ?_;clear hw;intro p w hw)|(refine qad ?_;clear hw;intro w hw)|(refine qab ?_;clear hw;intro s w hw))
  refine qau (vs:=[]) (ls:=[]) rfl rfl rfl ?_
  repeat (first|refine qac ?_|(refine qaa ?_;clear hw;intro p w hw)|(refine qad ?_;clear hw;intro w hw)|(refine qab ?_;clear hw;intro s w hw))
  rw [if_pos (by omega)] at hR
  subst hR
  exact qar (p:=p) (vs:=[.int .i64 0,.int .i64 0]) rfl rfl rfl rfl (hw.boxR 1 rfl) ⟨rfl,hw.sel⟩
 repeat (first|refine qac ?_|(refine qaa ?_;clear hw;intro p w hw)|(refine qad ?_;clear hw;intro w hw)|(refine qab ?_;clear hw;intro s w hw))
 rw [if_neg (by omega)] at hR
 subst hR
 exact qar (p:=p) (vs:=[.int .i64 n2,.int .i64 d2]) rfl rfl rfl rfl (hw.boxR 1 rfl) ⟨rfl,hw.sel⟩
end Go.Proofs.YtdadmnlenbdfbaaGreat
/-
  Contracts of fraction.Proper, Add and Sub.
-/
namespace Go.Proofs.YtdadmnlenbdfbaaGreat
open Go.Sl Go
attribute [local irreducible] vc opsW opsD opV opW PureV ReadV Thn Blk
theorem qap:(true == false)=false:=rfl
theorem qaq:(false == true)=false:=rfl
theorem gv_fF (v:Value):gv false v=undef:=by unfold gv;rfl
theorem gv_tF (v:Value):gv true v=v:=qah rfl
set_option maxRecDepth 8000 in
set_option maxHeartbeats 4000000 in
theorem qaz {w0:World}(f:Frc) :
  Calls Tryz.prog 97 #[frcV f] w0 fun e w'=>e=.returned (.bool (decide (PrpF f)))∧Sat w0 w' []:=by
 have hw:=Sat.start w0
 obtain⟨n,d⟩:=f
 refine qaf (args:=[.agg #[.int .i64 n,.int .i64 d]]) mixed Tryz.func97 rfl (by kernel_rfl) (Nat.le_of_ble_eq_true rfl) ?_
 repeat (first|refine qac ?_|(refine qaa ?_;clear hw;intro p w hw)|(refine qad ?_;clear hw;intro w hw)|(refine qab ?_;clear hw;intro s w hw))
 replace hw:Sat w0 w [Box p 146 [.int .i64 n,.int .i64 d]]:=hw
 by_cases hQ:1≤d∧d≤1048576 ∧ -1099511627776≤n∧n≤1099511627776
 ·obtain⟨c1,c2,c3,c4⟩:=hQ
  refine qay [.op 0,.op 1,.op 2,.op 3,.op 4,.op 5,.op 6,.op 7,.op 8,.op 9,.op 10,.op 11,.op 12,.op 13,.op 14,.op 15,.op 16,.op 17,.op 18,.op 19,.op 20,.op 22,.op 23,.op 21,.chk 23,.op 24,.op 25,.op 26,.op 27] hw (by kernel_rfl) ?_;clear hw;intro w hw
  repeat (first|refine qac ?_|(refine qaa ?_;clear hw;intro p w hw)|(refine qae ?_;clear hw;intro w hw)|(refine qab ?_;clear hw;intro s w hw))
  have hd1:=decide_eq_true c1
  have hd2:=decide_eq_true c2
  have hd3:=decide_eq_true c3
  have hd4:=decide_eq_true c4
  simp only [hd1,hd2,hd3,hd4,beq_self_eq_true,qap,qaq,Bool.false_and,Bool.true_and,Bool.and_true,Bool.and_false,Bool.false_or,Bool.true_or,Bool.not_true,Bool.not_false,Bool.cond_true,Bool.cond_false,gv_fF,gv_tF]
  repeat (first|refine qac ?_|(refine qaa ?_;clear hw;intro p w hw)|(refine qae ?_;clear hw;intro w hw)|(refine qab ?_;clear hw;intro s w hw))
  refine qag rfl (qa2 (n:=n) (by omega) (by omega)) ?_
  rintro _ w' ⟨rfl,hk'⟩;replace hw:=hw.call0 hk';clear hk';refine⟨_,rfl,?_⟩
  repeat (first|refine qac ?_|(refine qaa ?_;clear hw;intro p w hw)|(refine qae ?_;clear hw;intro w hw)|(refine qab ?_;clear hw;intro s w hw))
  refine qag rfl (qc8 (a:=(n.natAbs:Int)) (b:=d) (by omega) (by omega) (by omega) (by omega)) ?_
  rintro _ w' ⟨rfl,hk'⟩;replace hw:=hw.call0 hk';clear hk';refine⟨_,rfl,?_⟩
  have hgg:Int.gcd (n.natAbs:Int) d=Int.gcd n d:=by simp [Int.gcd]
  rw [hgg]
  repeat (first|refine qac ?_|(refine qaa ?_;clear hw;intro p w hw)|(refine qae ?_;clear hw;intro w hw)|(refine qab ?_;clear hw;intro s w hw))
  refine qai (v:=.bool (decide (PrpF ⟨n,d⟩))) rfl ?_ ⟨rfl,hw.sel⟩
  have e:decide (PrpF ⟨n,d⟩)=decide (((Int.gcd n d:Nat):Int)=1):=decide_eq_decide.2 ⟨fun h=>by have:=h.2.2.2.2;simp only at this;omega,fun h=>⟨c1,c2,c3,c4,by simp only;omega⟩⟩
  rw [e]
  rfl
 have hN:decide (PrpF ⟨n,d⟩)=false:=decide_eq_false fun h=>hQ ⟨h.1,h.2.1,h.2.2.1,h.2.2.2.1⟩
 rw [hN]
 by_cases c1:1≤d
 ·have hd1:=decide_eq_true c1
  by_cases c2:d≤1048576
  ·have hd2:=decide_eq_true c2
   by_cases c3 : -1099511627776≤n
   ·have hd3:=decide_eq_true c3
    have hd4:decide (n≤1099511627776)=false:=decide_eq_false fun c4=>hQ ⟨c1,c2,c3,c4⟩
    refine qay [.op 0,.op 1,.op 2,.op 3,.op 4,.op 5,.op 6,.op 7,.op 8,.op 9,.op 10,.op 11,.op 12,.op 13,.op 14,.op 15,.op 16,.op 17,.op 18,.op 19,.op 20,.op 22,.op 23,.op 21,.chk 23,.op 24,.op 25,.op 26,.op 27] hw (by kernel_rfl) ?_;clear hw;intro w hw
    repeat (first|refine qac ?_|(refine qaa ?_;clear hw;intro p w hw)|(refine qae ?_;clear hw;intro w hw)|(refine qab ?_;clear hw;intro s w hw))
    simp only [hd1,hd2,hd3,hd4,beq_self_eq_true,qap,qaq,Bool.false_and,Bool.true_and,Bool.and_true,Bool.and_false,Bool.false_or,Bool.true_or,Bool.not_true,Bool.not_false,Bool.cond_true,Bool.cond_false,gv_fF,gv_tF]
    repeat (first|refine qac ?_|(refine qaa ?_;clear hw;intro p w hw)|(refine qae ?_;clear hw;intro w hw)|(refine qab ?_;clear hw;intro s w hw))
    exact qai (v:=.bool false) rfl rfl ⟨rfl,hw.sel⟩
   ·have hd3:=decide_eq_false c3
    refine qay [.op 0,.op 1,.op 2,.op 3,.op 4,.op 5,.op 6,.op 7,.op 8,.op 9,.op 10,.op 11,.op 12,.op 13,.op 14,.op 15,.op 16,.op 17,.op 18,.op 19,.op 20,.op 22,.op 23,.op 21,.chk 23,.op 24,.op 25,.op 26,.op 27] hw (by kernel_rfl) ?_;clear hw;intro w hw
    repeat (first|refine qac ?_|(refine qaa ?_;clear hw;intro p w hw)|(refine qae ?_;clear hw;intro w hw)|(refine qab ?_;clear hw;intro s w hw))
    simp only [hd1,hd2,hd3,beq_self_eq_true,qap,qaq,Bool.false_and,Bool.true_and,Bool.and_true,Bool.and_false,Bool.false_or,Bool.true_or,Bool.not_true,Bool.not_false,Bool.cond_true,Bool.cond_false,gv_fF,gv_tF]
    repeat (first|refine qac ?_|(refine qaa ?_;clear hw;intro p w hw)|(refine qae ?_;clear hw;intro w hw)|(refine qab ?_;clear hw;intro s w hw))
    exact qai (v:=.bool false) rfl rfl ⟨rfl,hw.sel⟩
  ·have hd2:=decide_eq_false c2
   refine qay [.op 0,.op 1,.op 2,.op 3,.op 4,.op 5,.op 6,.op 7,.op 8,.op 9,.op 10,.op 11,.op 12,.op 13,.op 14,.op 15,.op 16,.op 17,.op 18,.op 19,.op 20,.op 22,.op 23,.op 21,.chk 23,.op 24,.op 25,.op 26,.op 27] hw (by kernel_rfl) ?_;clear hw;intro w hw
   repeat (first|refine qac ?_|(refine qaa ?_;clear hw;intro p w hw)|(refine qae ?_;clear hw;intro w hw)|(refine qab ?_;clear hw;intro s w hw))
   simp only [hd1,hd2,beq_self_eq_true,qap,qaq,Bool.false_and,Bool.true_and,Bool.and_true,Bool.and_false,Bool.false_or,Bool.true_or,Bool.not_true,Bool.not_false,Bool.cond_true,Bool.cond_false,gv_fF,gv_tF]
   repeat (first|refine qac ?_|(refine qaa ?_;clear hw;intro p w hw)|(refine qae ?_;clear hw;intro w hw)|(refine qab ?_;clear hw;intro s w hw))
   exact qai (v:=.bool false) rfl rfl ⟨rfl,hw.sel⟩
 have hd1:=decide_eq_false c1
 refine qay [.op 0,.op 1,.op 2,.op 3,.op 4,.op 5,.op 6,.op 7,.op 8,.op 9,.op 10,.op 11,.op 12,.op 13,.op 14,.op 15,.op 16,.op 17,.op 18,.op 19,.op 20,.op 22,.op 23,.op 21,.chk 23,.op 24,.op 25,.op 26,.op 27] hw (by kernel_rfl) ?_;clear hw;intro w hw
 repeat (first|refine qac ?_|(refine qaa ?_;clear hw;intro p w hw)|(refine qae ?_;clear hw;intro w hw)|(refine qab ?_;clear hw;intro s w hw))
 simp only [hd1,beq_self_eq_true,qap,qaq,Bool.false_and,Bool.true_and,Bool.and_true,Bool.and_false,Bool.false_or,Bool.true_or,Bool.not_true,Bool.not_false,Bool.cond_true,Bool.cond_false,gv_fF,gv_tF]
 repeat (first|refine qac ?_|(refine qaa ?_;clear hw;intro p w hw)|(refine qae ?_;clear hw;intro w hw)|(refine qab ?_;clear hw;intro s w hw))
 exact qai (v:=.bool false) rfl rfl ⟨rfl,hw.sel⟩
end Go.Proofs.YtdadmnlenbdfbaaGreat
