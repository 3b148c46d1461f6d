/-
  Several texts as one: WTStates, WSome, WSort, WSlices.
-/
import Derived.Test.YtdadmnlenbdfbaaGreatMW1
import Derived.Test.YtdadmnlenbdfbaaGreatMSlB
import Derived.Shelf.Sort.Plain
import Derived.Shelf.Slices.In.SortNone
import Derived.Shelf.Slices.CompactI
set_option linter.unusedSimpArgs false
set_option linter.unusedVariables false
/-
  Contracts of the helpers 'States' and 'Edges'.
-/
namespace Go.Proofs.YtdadmnlenbdfbaaGreat
open Go.Sl
attribute [local irreducible] vc opsW opsD opV opW PureV ReadV Thn Blk
def statesI (l:List (List Int)) (k:Int) (i:Nat):List (List Int):=statesS (l.take i) k
def rowsX (s:List Int) (x:Nat):List (List Int):=(List.range x).map fun (x:Nat)=>s++[(x:Int)]
theorem qfS {l:List (List Int)}{k:Int}{i:Nat}(hi:i<l.length):statesI l k (i+1)=statesI l k i++rowsX (l.getD i []) k.toNat:=by
 unfold statesI statesS rowsX
 rw [qav [] hi];simp
theorem qgI (l:List (List Int)) (k:Int):statesI l k l.length=statesS l k:=by unfold statesI;rw [List.take_length]
theorem qib (s:List Int) (x:Nat):rowsX s (x+1)=rowsX s x++[s++[(x:Int)]]:=by simp [rowsX,List.range_succ]
theorem qgJ {vars:List Int}{i:Nat}(hi:i<(statesL vars).length):((statesL vars).getD i []).length=vars.length:=(qcl.1 (qan [] hi)).1
theorem qjv {n k i:Nat}{p:Int}(h:i<n) (hp:((n:Int)*k)≤p):(i:Int)*k+k≤p:=by
 have h1:(i+1)*k≤n*k:=Nat.mul_le_mul_right k h
 rw [Nat.succ_mul] at h1
 have h2:((i*k+k:Nat):Int)≤((n*k:Nat):Int):=by exact_mod_cast h1
 simp only [Int.natCast_add,Int.natCast_mul] at h2
 omega
set_option maxRecDepth 8000 in
set_option maxHeartbeats 4000000 in
theorem qg1 {w0:World}{a:Value}{vars:List Int}(ha:RS tInt w0 a vars) (hp:∀ x∈vars,1≤x) (hn:vars.length≤64) (hB:prodL vars≤65536) :
  Calls Tryz.prog 22 #[a] w0 fun e w'=>∃ s ss,e=.returned s∧Sat w0 w' [RowsAt tInt 3 ss (statesL vars),OS tVal 22 s ss]:=by
 have hla:=ha.big
 have hw:=Sat.start w0
 refine qaf (args:=[a]) mixed Tryz.func22 rfl (by kernel_rfl) (Nat.le_of_ble_eq_true rfl) ?_
 repeat (first|refine qac ?_|(refine qaa ?_;clear hw;intro p w hw)|(refine qad ?_;clear hw;intro w hw)|(refine qab ?_;clear hw;intro s w hw))
 refine qaJ tInt hw ?_
 clear hw
 intro s w hw
 repeat (first|refine qac ?_|(refine qaa ?_;clear hw;intro p w hw)|(refine qad ?_;clear hw;intro w hw)|(refine qab ?_;clear hw;intro s w hw))
 replace hw:=(hw.swap.rows0 (T:=tInt) (e:=3)).swap.rowPush
 refine qa7 [3,5,6,8,9,14,15,16,17,18,19,20,21,22,23,24,25,26,27,28,29,30,31,32,33,34,35,36,37,38,39,40] (G:=Nat) (H:=Value) (I:=List Value) (fun k s _=>[(14,.int .i64 k),(3,s)]) (fun k s ss w=>k≤vars.length∧Sat w0 w [RowsAt tInt 3 ss (statesL (vars.take k)),OS tVal 22 s ss]) (fun k _ _=>vars.length-k) 0 _ _ (fun _ _ _=>rfl) ⟨rfl,rfl,trivial⟩ ⟨Nat.zero_le _,hw⟩ ?_
 clear hw
 rintro σ k s ss w ⟨hk,hw⟩
 repeat (first|refine qac ?_|(refine qaa ?_;clear hw;intro p w hw)|(refine qad ?_;clear hw;intro w hw)|(refine qab ?_;clear hw;intro s w hw))
 refine go_if (fun h1 => ?_) (fun h1 => ?_)
 ·have hkl:k<vars.length:=by omega
  have hpk:∀ x∈vars.take k,1≤x:=fun x hx=>hp x (List.mem_of_mem_take hx)
  have hvk:=hp _ (qan tInt.dflt hkl)
  have hS:statesL (vars.take (k+1))=statesS (statesL (vars.take k)) (vars.getD k tInt.dflt):=by rw [qav tInt.dflt hkl,qbS]
  have hN:((statesL (vars.take k)).length:Int)*(vars.getD k tInt.dflt).toNat≤65536:=by
   have h2:=qdi hp (k+1)
   rw [qav tInt.dflt hkl,qbc] at h2
   have h3:=qb3 hpk
   rw [qa3 hpk,Int.toNat_of_nonneg (by omega),Int.toNat_of_nonneg (by omega)]
   omega
  have hN2:((statesL (vars.take k)).length:Int)≤65536:=by
   have h2:=qdi hp k
   rw [qa3 hpk]
   omega
  have hV:vars.getD k tInt.dflt≤65536:=by
   have h2:=qdi hp (k+1)
   rw [qav tInt.dflt hkl,qbc] at h2
   have h3:=qb3 hpk
   have h4:1*vars.getD k tInt.dflt≤prodL (vars.take k)*vars.getD k tInt.dflt:=Int.mul_le_mul_of_nonneg_right h3 (by omega)
   omega
  obtain⟨V,hVe⟩:∃ V,V=vars.getD k tInt.dflt:=⟨_,rfl⟩
  obtain⟨L,hLe⟩:∃ L,L=statesL (vars.take k):=⟨_,rfl⟩
  have hrow:∀ i,i<L.length→(L.getD i []).length≤64:=fun i hi=>by
   subst hLe
   rw [qgJ hi,List.length_take];omega
  have hss:ss.length=(statesL (vars.take k)).length:=hw.rowsLen
  rw [←hLe] at hS hN hN2 hw hss
  rw [←hVe] at hS hN hV hvk
  repeat (first|refine qac ?_|(refine qaa ?_;clear hw;intro p w hw)|(refine qad ?_;clear hw;intro w hw)|(refine qab ?_;clear hw;intro s w hw))
  have hb:=hw
  have hout:RS tVal w s ss:=rsO hb
  have ha1:=ha.at hw
  obtain⟨w1,hw1⟩:∃ w1,w1=w:=⟨_,rfl⟩
  rw [←hw1] at hb hout ha1
  replace hw:=Sat.start w
  rw [←hw1] at hw
  rw [←hVe]
  refine qa7 [6,8,9,20,21,22,23,24,25,26,27,28,29,30,31,32,33,34,35,36,37,38] (G:=Nat) (H:=Value) (I:=List Value) (fun i s _=>[(20,.int .i64 i),(6,s)]) (fun i s' ss' w=>i≤L.length∧ss'.length=i*V.toNat∧Sat w1 w [RowsAt tInt 3 ss' (statesI L V i),OS tVal 22 s' ss']) (fun i _ _=>L.length-i) 0 _ [] (fun _ _ _=>rfl) ⟨rfl,rfl,trivial⟩ ⟨Nat.zero_le _,(by simp),hw1 ▸ hw.nil.rows0⟩ ?_
  clear hw hw1
  rintro σ1 i s' ss' w ⟨hi,hsl',hw⟩
  repeat (first|refine qac ?_|(refine qaa ?_;clear hw;intro p w hw)|(refine qad ?_;clear hw;intro w hw)|(refine qab ?_;clear hw;intro s w hw))
  refine go_if (fun h2 => ?_) (fun h2 => ?_)
  ·have hil:i<L.length:=by omega
   have hr:=hb.row hil
   have hrl:=hrow i hil
   have hmul:=qjv hil hN
   have hsl'':(ss'.length:Int)=(i:Int)*V.toNat:=by rw [hsl'];simp
   repeat (first|refine qac ?_|(refine qaa ?_;clear hw;intro p w hw)|(refine qad ?_;clear hw;intro w hw)|(refine qab ?_;clear hw;intro s w hw))
   refine qa7 [6,9,25,26,27,28,29,30,31,32,33,34,35,36,37] (G:=Nat) (H:=Value) (I:=List Value) (fun x s _=>[(25,.int .i64 x),(6,s)]) (fun x s' ss' w=>x≤V.toNat∧ss'.length=i*V.toNat+x∧Sat w1 w [RowsAt tInt 3 ss' (statesI L V i++rowsX (L.getD i []) x),OS tVal 22 s' ss']) (fun x _ _=>V.toNat-x) 0 s' ss' (fun _ _ _=>rfl) ⟨rfl,rfl,trivial⟩ ⟨Nat.zero_le _,hsl',by simpa [rowsX] using hw⟩ ?_
   clear hw hsl' hsl''
   rintro σ2 x s2 ss2 w ⟨hx,hs2,hw⟩
   have hs3:(ss2.length:Int)=(i:Int)*V.toNat+x:=by rw [hs2];simp
   repeat (first|refine qac ?_|(refine qaa ?_;clear hw;intro p w hw)|(refine qad ?_;clear hw;intro w hw)|(refine qab ?_;clear hw;intro s w hw))
   refine go_if (fun h3 => ?_) (fun h3 => ?_)
   ·repeat (first|refine qac ?_|(refine qaa ?_;clear hw;intro p w hw)|(refine qad ?_;clear hw;intro w hw)|(refine qab ?_;clear hw;intro s w hw))
    refine qaJ tInt hw ?_
    clear hw
    intro e1 w hw
    repeat (first|refine qac ?_|(refine qaa ?_;clear hw;intro p w hw)|(refine qad ?_;clear hw;intro w hw)|(refine qab ?_;clear hw;intro s w hw))
    replace hw:=hw.tail.tail.rowPush
    rw [List.nil_append,List.append_assoc,←qib] at hw
    exact⟨x+1,_,_,⟨rfl,rfl,trivial⟩,agr,⟨by omega,by simp;omega,hw⟩,by omega⟩
   ·have hxe:x=V.toNat:=by omega
    subst hxe
    rw [←qfS hil] at hw
    repeat (first|refine qac ?_|(refine qaa ?_;clear hw;intro p w hw)|(refine qad ?_;clear hw;intro w hw)|(refine qab ?_;clear hw;intro s w hw))
    exact⟨i+1,_,ss2,⟨rfl,rfl,trivial⟩,agr,⟨by omega,by rw [Nat.succ_mul];omega,hw⟩,by omega⟩
  ·have hie:i=L.length:=by omega
   subst hie
   rw [qgI,←hS] at hw
   repeat (first|refine qac ?_|(refine qaa ?_;clear hw;intro p w hw)|(refine qad ?_;clear hw;intro w hw)|(refine qab ?_;clear hw;intro s w hw))
   exact⟨k+1,_,ss',⟨rfl,rfl,trivial⟩,agr,⟨by omega,(hb.call hw).comm.tail.tail⟩,by omega⟩
 ·rw [List.take_of_length_le (by omega)] at hw
  repeat (first|refine qac ?_|(refine qaa ?_;clear hw;intro p w hw)|(refine qad ?_;clear hw;intro w hw)|(refine qab ?_;clear hw;intro s w hw))
  exact qai (v:=s) rfl rfl ⟨s,ss,rfl,hw⟩
end Go.Proofs.YtdadmnlenbdfbaaGreat
/-
  Contract of law 47's 'some'.
-/
namespace Go.Proofs.YtdadmnlenbdfbaaGreat
open Go.Sl Go
attribute [local irreducible] vc opsW opsD opV opW PureV ReadV Thn Blk
def SomeOk (b:Value) (t:TTask) (ss os:List Value) (Zs:List (List Int)):Prop:=os.length=Zs.length∧∀ i,i<Zs.length→(vget os i=b∧Zs.getD i []=t.init)∨∃ r,r<(statesL t.vars).length∧vget os i=vget ss r∧Zs.getD i []=(statesL t.vars).getD r []
theorem SomeOk.ok {b:Value}{t:TTask}{ss os:List Value}{Zs:List (List Int)}(h:SomeOk b t ss os Zs) (hg:GoodT t) {i:Nat}(hi:i<Zs.length):StateOk t.vars (Zs.getD i []):=by
 rcases h.2 i hi with ⟨_,e⟩|⟨r,hr,_,e⟩
 ·rw [e];exact hg.init
 ·rw [e];exact (qhU hg.pos hr).1
theorem SomeOk.rs {w0 w:World}{Γ:List HP}{b:Value}{t:TTask}{ss os:List Value}{Zs:List (List Int)}(h:SomeOk b t ss os Zs) (hb:RS tInt w0 b t.init) (hw:Sat w0 w (RowsAt tInt 3 ss (statesL t.vars)::Γ)) {i:Nat}(hi:i<Zs.length):RS tInt w (vget os i) (Zs.getD i []):=by
 rcases h.2 i hi with ⟨e1,e⟩|⟨r,hr,e1,e⟩
 ·rw [e,e1];exact hb.at hw
 ·rw [e,e1];exact hw.row hr
theorem SomeOk.one {b:Value}{t:TTask}{ss:List Value}:SomeOk b t ss [b] [t.init]:=⟨rfl,fun i hi=>.inl (by
 have:i=0:=by simpa using hi
 subst this
 exact⟨by rw [qaV];rfl,rfl⟩)⟩
theorem qkZ {os:List Value}{v:Value}{i:Nat}(h:i<os.length):vget (os++[v]) i=vget os i:=by
 rw [qaV,qaV,List.getD,List.getD,List.getElem?_append_left h]
theorem qjN {os:List Value}{v:Value}:vget (os++[v]) os.length=v:=by
 rw [qaV,List.getD,List.getElem?_append_right (Nat.le_refl _)];simp
theorem SomeOk.snoc {b:Value}{t:TTask}{ss os:List Value}{Zs:List (List Int)}(h:SomeOk b t ss os Zs) {r:Nat}(hr:r<(statesL t.vars).length):SomeOk b t ss (os++[vget ss r]) (Zs++[(statesL t.vars).getD r []]):=by
 refine⟨by simp [h.1],fun i hi => ?_⟩
 by_cases e:i<Zs.length
 ·have e1:(Zs++[(statesL t.vars).getD r []]).getD i []=Zs.getD i []:=by simp only [List.getD,List.getElem?_append_left e]
  rw [qkZ (by rw [h.1];exact e),e1]
  exact h.2 i e
 ·have e2:i=Zs.length:=by
   simp only [List.length_append,List.length_cons,List.length_nil] at hi;omega
  subst e2
  refine .inr ⟨r,hr,?_,?_⟩
  ·rw [←h.1];exact qjN
  ·rw [List.getD,List.getElem?_append_right (Nat.le_refl _)];simp
set_option maxRecDepth 8000 in
set_option maxHeartbeats 4000000 in
theorem qg9 {w0:World}{a b c d:Value}{vs:List OpV}{t:TTask}(ht:RTask w0 a b c d vs t) (hs:SmallT t) :
  Calls Tryz.prog 8 #[.agg #[a,b,c,d]] w0 fun e w'=>∃ ov os ss Zs,e=.returned ov∧SomeOk b t ss os Zs∧Zs.length≤1024∧0<Zs.length∧Sat w0 w' [RowsAt tInt 3 ss (statesL t.vars),OS tVal 22 ov os]:=by
 have hg:=hs.good
 have hvl:=hg.vars
 have hB:=hs.many
 have hsl:(statesL t.vars).length=(prodL t.vars).toNat:=qa3 hg.pos
 have hbi:=ht.init
 have hw:=Sat.start w0
 refine qaf (args:=[.agg #[a,b,c,d]]) mixed Tryz.func8 rfl (by kernel_rfl) (Nat.le_of_ble_eq_true rfl) ?_
 repeat (first|refine qac ?_|(refine qaa ?_;clear hw;intro p w hw)|(refine qad ?_;clear hw;intro w hw)|(refine qab ?_;clear hw;intro s w hw))
 obtain⟨pt,hpt⟩:∃ pt,pt=p:=⟨p,rfl⟩
 subst hpt
 obtain⟨so,hso⟩:∃ so,so=s:=⟨s,rfl⟩
 subst hso
 refine qag rfl (qg1 (ht.vars.at hw) hg.pos hvl (by omega)) ?_
 rintro _ w' ⟨av,ss,rfl,hk'⟩
 replace hw:=hw.call2 hk'
 clear hk'
 refine⟨_,rfl,?_⟩
 replace hw:Sat w0 w' [RowsAt tInt 3 ss (statesL t.vars),OS tVal 22 av ss,OS tVal 22 so [b],Box pt 26 [a,b,c,d]]:=hw
 have hssl:ss.length=(statesL t.vars).length:=hw.rowsLen
 repeat (first|refine qac ?_|(refine qaa ?_;clear hw;intro p w hw)|(refine qad ?_;clear hw;intro w hw)|(refine qab ?_;clear hw;intro s w hw))
 refine qbn [3,5,12,13,14,15,16,17,18,19,20,21,22,23,24,25,26,27,28] (G:=Nat) (H:=Value) (I:=List Value) (M:=List (List Int)) (fun i ov _ _=>[(5,.int .i64 i),(3,ov)]) (fun i ov os Zs w=>i≤2048∧SomeOk b t ss os Zs∧Zs.length≤min i 512+1∧0<Zs.length∧Sat w0 w [RowsAt tInt 3 ss (statesL t.vars),OS tVal 22 av ss,OS tVal 22 ov os,Box pt 26 [a,b,c,d]]) (fun i _ _ _=>4096-i) 0 so [b] [t.init] (fun _ _ _ _=>rfl) ⟨rfl,rfl,trivial⟩ ⟨Nat.zero_le _,.one,by simp,by simp,hw⟩ ?_
 clear hw
 rintro σ i ov os Zs w ⟨hi,hZ,hZl,hZ0,hw⟩
 have hosl:=hZ.1
 repeat (first|refine qac ?_|(refine qaa ?_;clear hw;intro p w hw)|(refine qad ?_;clear hw;intro w hw)|(refine qab ?_;clear hw;intro s w hw))
 refine go_if (fun h1 => ?_) (fun h1 => ?_)
 ·have hil:i<(statesL t.vars).length:=by omega
  have hrow:=hw.row hil
  have hq:((ss.length:Int)).tdiv 10=((ss.length / 10:Nat):Int):=by rw [Int.tdiv_eq_ediv_of_nonneg (by omega)];omega
  repeat (first|refine qac ?_|(refine qaa ?_;clear hw;intro p w hw)|(refine qad ?_;clear hw;intro w hw)|(refine qab ?_;clear hw;intro s w hw))
  obtain⟨ov2,hov2⟩:∃ ov2,ov2=s:=⟨s,rfl⟩
  subst hov2
  exact⟨i+(1+ss.length / 10),ov2,os++[vget ss i],Zs++[(statesL t.vars).getD i []],⟨by show Value.int .i64 ((i:Int)+(1+((ss.length:Int)).tdiv 10))=_;rw [hq];congr 1,rfl,trivial⟩,agr,⟨by omega,hZ.snoc hil,by rw [List.length_append];simp only [List.length_singleton];omega,by rw [List.length_append];omega,hw.tail⟩,by omega⟩
 repeat (first|refine qac ?_|(refine qaa ?_;clear hw;intro p w hw)|(refine qad ?_;clear hw;intro w hw)|(refine qab ?_;clear hw;intro s w hw))
 exact qai (v:=ov) rfl rfl ⟨ov,os,ss,Zs,rfl,hZ,by omega,hZ0,hw.sel⟩
end Go.Proofs.YtdadmnlenbdfbaaGreat
/-
  The kit's contracts of 'slices.Sort' and 'slices.Compact' over ints, at this program.
-/
namespace Go.Proofs.YtdadmnlenbdfbaaGreat
open Go.Sl Go Go.Shelf
def renC:Ren:=⟨fun k=>bif Nat.beq k 20 then 66 else 0,fun k=>bif Nat.beq k 0 then 0 else bif Nat.beq k 3 then 3 else bif Nat.beq k 4 then 4 else bif Nat.beq k 22 then 22 else 0,fun k=>k⟩
set_option maxRecDepth 100000 in
theorem layCompact:Lays2.n20 Tryz.prog renC:={ mixed:=mixed,f20:=Tryz.func66.trans (by kernel_rfl),t0:=by kernel_rfl,a0:=fun w=>by kernel_rfl,z0:=fun w=>by kernel_rfl,v0:=fun w=>by kernel_rfl,t3:=by kernel_rfl,a3:=fun w=>by kernel_rfl,z3:=fun w=>by kernel_rfl,v3:=fun w=>by kernel_rfl,t4:=by kernel_rfl,a4:=fun w=>by kernel_rfl,z4:=fun w=>by kernel_rfl,v4:=fun w=>by kernel_rfl,t22:=by kernel_rfl,a22:=fun w=>by kernel_rfl,z22:=fun w=>by kernel_rfl,v22:=fun w=>by kernel_rfl,i3:=by kernel_rfl }
def compL (xs:List Int):List Int:=Lib.compact xs
theorem qhC (xs:List Int):(compL xs).length≤xs.length:=by
 unfold compL Lib.compact Lib.compactUpTo
 rw [List.length_map]
 exact Nat.le_trans (List.length_filter_le _ _) (by simp)
theorem qgl {w0 w:World}{Γ:List HP}{s:Value}{xs:List Int}(hw:Sat w0 w (OS tInt 3 s xs::Γ)) (hn:xs.length≤9223372036854775807) :
  Calls Tryz.prog 66 #[s] w fun e w'=>∃ s',e=.returned s'∧Sat w0 w' (OS tInt 3 s' (compL xs)::Γ):=by
 rcases hw.intsAt with ⟨rfl,rfl⟩|⟨b,off,cap,rfl,hc,hb,hH,hput⟩
 ·refine Calls.mono (Any.slices_Compact_int_empty layCompact none 0 w) ?_
  rintro e w' ⟨rfl,rfl⟩
  exact⟨_,rfl,hw⟩
 ·refine Calls.mono (Any.slices_Compact_int layCompact b off cap xs w hH hn hc) ?_
  rintro e w' ⟨rfl,n,rfl⟩
  have hle:=qhC xs
  have h1:=hput (compL xs++List.replicate (xs.length-(compL xs).length) 0) (by simp;omega) n
  refine⟨_,rfl,?_⟩
  have hlen:(compL xs).length≤(compL xs++List.replicate (xs.length-(compL xs).length) 0).length:=by simp
  have h2:=h1.sub own_here 0 (compL xs).length (Nat.zero_le _) hlen
  have e:cut (compL xs++List.replicate (xs.length-(compL xs).length) 0) 0 (compL xs).length=compL xs:=by simp [cut]
  have e2:ssub (.slice (some ⟨b,off,none⟩) xs.length cap) tInt.sz 0 (compL xs).length=.slice (some ⟨b,off,none⟩) (compL xs).length cap:=by simp [ssub,qcN,tInt]
  rw [e,e2] at h2
  exact h2
end Go.Proofs.YtdadmnlenbdfbaaGreat
/-
  Contracts of 'slices.Index', 'Contains' and 'Clone' over ints.
-/
namespace Go.Proofs.YtdadmnlenbdfbaaGreat
open Go.Sl Go
attribute [local irreducible] vc opsW opsD opV opW PureV ReadV Thn Blk
set_option maxRecDepth 8000 in
theorem qiv {w0:World}{a:Value}{xs:List Int}{v:Int}(ha:RS tInt w0 a xs) :
  Calls Tryz.prog 95 #[a,.int .i64 v] w0 fun e w'=>(∃ r:Int,e=.returned (.int .i64 r)∧(0≤r↔v∈xs))∧Sat w0 w' []:=by
 have hla:=ha.big
 have hw:=Sat.start w0
 refine qaf (args:=[a,.int .i64 v]) mixed Tryz.func95 rfl (by kernel_rfl) (Nat.le_of_ble_eq_true rfl) ?_
 repeat (first|refine qac ?_|(refine qaa ?_;clear hw;intro p w hw)|(refine qad ?_;clear hw;intro w hw)|(refine qab ?_;clear hw;intro s w hw))
 refine qao [4,5,8,9,10,11,12,13,14,15,16,17,18] (G:=Nat) (fun k=>[(8,.int .i64 k)]) (fun k w=>k≤xs.length∧(∀ i,i<k→xs.getD i tInt.dflt≠v)∧Sat w0 w []) (fun k=>xs.length-k) 0 (fun _=>rfl) ⟨rfl,trivial⟩ ⟨Nat.zero_le _,fun i hi=>absurd hi (Nat.not_lt_zero _),hw⟩ ?_
 clear hw
 rintro σ k w ⟨hk,hpre,hw⟩
 repeat (first|refine qac ?_|(refine qaa ?_;clear hw;intro p w hw)|(refine qad ?_;clear hw;intro w hw)|(refine qab ?_;clear hw;intro s w hw))
 refine go_if (fun h1 => ?_) (fun h1 => ?_)
 ·have hkl:k<xs.length:=by omega
  repeat (first|refine qac ?_|(refine qaa ?_;clear hw;intro p w hw)|(refine qad ?_;clear hw;intro w hw)|(refine qab ?_;clear hw;intro s w hw))
  refine go_if (fun h2 => ?_) (fun h2 => ?_)
  ·repeat (first|refine qac ?_|(refine qaa ?_;clear hw;intro p w hw)|(refine qad ?_;clear hw;intro w hw)|(refine qab ?_;clear hw;intro s w hw))
   refine qai (v:=.int .i64 k) rfl rfl ⟨⟨k,rfl,⟨fun _ => ?_,fun _=>by omega⟩⟩,hw⟩
   rw [h2];exact qan _ hkl
  ·repeat (first|refine qac ?_|(refine qaa ?_;clear hw;intro p w hw)|(refine qad ?_;clear hw;intro w hw)|(refine qab ?_;clear hw;intro s w hw))
   refine⟨k+1,⟨rfl,trivial⟩,agr,⟨by omega,fun i hi => ?_,hw⟩,by omega⟩
   by_cases h:i=k
   ·subst h;exact fun h=>h2 h.symm
   ·exact hpre i (by omega)
 ·repeat (first|refine qac ?_|(refine qaa ?_;clear hw;intro p w hw)|(refine qad ?_;clear hw;intro w hw)|(refine qab ?_;clear hw;intro s w hw))
  refine qai (v:=.int .i64 (-1)) rfl rfl ⟨⟨-1,rfl,⟨fun h=>by omega,fun h => ?_⟩⟩,hw⟩
  obtain⟨i,hi,he⟩:=List.mem_iff_getElem.1 h
  exact absurd (by rw [qak hi];exact he) (hpre i (by omega))
set_option maxRecDepth 8000 in
theorem qc6 {w0:World}{a:Value}{xs:List Int}{v:Int}(ha:RS tInt w0 a xs) :
  Calls Tryz.prog 76 #[a,.int .i64 v] w0 fun e w'=>e=.returned (.bool (decide (v∈xs)))∧Sat w0 w' []:=by
 have hw:=Sat.start w0
 refine qaf (args:=[a,.int .i64 v]) mixed Tryz.func76 rfl (by kernel_rfl) (Nat.le_of_ble_eq_true rfl) ?_
 repeat (first|refine qac ?_|(refine qaa ?_;clear hw;intro p w hw)|(refine qad ?_;clear hw;intro w hw)|(refine qab ?_;clear hw;intro s w hw))
 refine qag rfl (qiv ha) ?_
 rintro _ w' ⟨⟨r,rfl,hr⟩,hk'⟩
 replace hw:=hw.call0 hk'
 clear hk'
 refine⟨_,rfl,?_⟩
 repeat (first|refine qac ?_|(refine qaa ?_;clear hw;intro p w hw)|(refine qad ?_;clear hw;intro w hw)|(refine qab ?_;clear hw;intro s w hw))
 refine qai (v:=.bool (decide (0≤r))) rfl rfl ⟨?_,hw⟩
 rw [decide_eq_decide.2 hr]
set_option maxRecDepth 8000 in
theorem qaZ {w0:World}{a:Value}{xs:List Int}(ha:RS tInt w0 a xs) (hn:xs.length≤1099511627776) :
  Calls Tryz.prog 40 #[a] w0 fun e w'=>∃ s,e=.returned s∧Sat w0 w' [OS tInt 3 s xs]:=by
 have hw:=Sat.start w0
 obtain⟨ad,cap,hs⟩:=ha.shape
 subst hs
 refine qaf (args:=[.slice ad xs.length cap]) mixed Tryz.func40 rfl (by kernel_rfl) (Nat.le_of_ble_eq_true rfl) ?_
 repeat (first|refine qac ?_|(refine qaa ?_;clear hw;intro p w hw)|(refine qad ?_;clear hw;intro w hw)|(refine qab ?_;clear hw;intro s w hw))
 refine qaE rfl (qbw (a:=ad) (n:=xs.length) (c:=cap) rfl) ?_
 cases ad with
 | none =>
  have h0:xs=[]:=by
   rcases Nat.eq_zero_or_pos xs.length with h|h
   ·exact List.eq_nil_of_length_eq_zero h
   ·obtain⟨p,c2,he,_⟩:=ha.some (by decide) h
    cases he
  subst h0
  repeat (first|refine qac ?_|(refine qaa ?_;clear hw;intro p w hw)|(refine qad ?_;clear hw;intro w hw)|(refine qab ?_;clear hw;intro s w hw))
  exact qai (v:=.slice none 0 0) rfl rfl ⟨_,rfl,hw.nil⟩
 | some p =>
  repeat (first|refine qac ?_|(refine qaa ?_;clear hw;intro p w hw)|(refine qad ?_;clear hw;intro w hw)|(refine qab ?_;clear hw;intro s w hw))
  refine qaJ tInt hw ?_
  clear hw
  intro s1 w hw
  repeat (first|refine qac ?_|(refine qaa ?_;clear hw;intro p w hw)|(refine qad ?_;clear hw;intro w hw)|(refine qab ?_;clear hw;intro s w hw))
  rw [List.nil_append] at hw
  exact qai (v:=s) rfl rfl ⟨_,rfl,hw⟩
end Go.Proofs.YtdadmnlenbdfbaaGreat
