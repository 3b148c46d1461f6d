/-
  Contract of shrink.Quotient.
-/
import Derived.Test.YtjdlohdcdmhigaaGreatDoorWCls
import Derived.Test.YtjdlohdcdmhigaaGreatDoorWPrd
set_option linter.unusedSimpArgs false
set_option linter.unusedVariables false
namespace Go.Proofs.YtjdlohdcdmhigaaGreatDoor
open Go.Sl Go
attribute [local irreducible] vc opsW opsD opV opW PureV ReadV Thn Blk
def quoGK (g:List Bool) (c:List Int) (k m:Nat):List Bool:=(List.range k).map fun (x:Nat)=>(List.range m).any fun s=>decide (c.getD s tInt.dflt=(x:Int)) && g.getD s tBool.dflt
theorem qb6 {g:List Bool}{c:List Int}{k m:Nat}:(quoGK g c k m).length=k:=by simp [quoGK]
theorem qjI {g:List Bool}{c:List Int}{k:Nat}:quoGK g c k 0=List.replicate k false:=by
 apply List.ext_getElem (by simp [quoGK])
 intro i h1 h2
 simp [quoGK]
theorem qf8 {g:List Bool}{c:List Int}{k m i:Nat}(hi:i<k):(quoGK g c k m).getD i tBool.dflt=(List.range m).any fun s=>decide (c.getD s tInt.dflt=(i:Int)) && g.getD s tBool.dflt:=by
 unfold quoGK
 rw [List.getD_eq_getElem?_getD,List.getElem?_map,List.getElem?_range hi]
 rfl
theorem qjJ {g:List Bool}{c:List Int}{k m:Nat}(h0:0≤c.getD m tInt.dflt) (h1:c.getD m tInt.dflt<k) :
  quoGK g c k (m+1)=(quoGK g c k m).set (c.getD m tInt.dflt).toNat ((quoGK g c k m).getD (c.getD m tInt.dflt).toNat tBool.dflt || g.getD m tBool.dflt):=by
 apply List.ext_getElem (by rw [List.length_set,qb6,qb6])
 intro i h2 h3
 have hi:i<k:=by rwa [qb6] at h2
 have a1:(quoGK g c k (m+1))[i]=(quoGK g c k (m+1)).getD i tBool.dflt:=(getD_at h2).symm
 have a2:=(getD_at (d:=tBool.dflt) h3).symm
 rw [a1,a2,setD,qb6,qf8 hi,List.range_succ,List.any_append]
 simp only [List.any_cons,List.any_nil,Bool.or_false]
 by_cases e:(c.getD m tInt.dflt).toNat=i
 ·have e2:c.getD m tInt.dflt=(i:Int):=by omega
  rw [if_pos ⟨e,hi⟩,e,qf8 hi,e2]
  simp only [decide_true,Bool.true_and]
 ·have e2:¬c.getD m tInt.dflt=(i:Int):=by omega
  rw [if_neg (fun h=>e h.1),qf8 hi]
  simp only [e2,decide_false,Bool.false_and,Bool.or_false]
set_option maxRecDepth 8000 in
set_option maxHeartbeats 16000000 in
theorem qho {w0:World}{sc se sg cl:Value}{S:SysV}{c:List Int}(hS:RSys w0 sc se sg S) (hv:ValS S) (hc:RS tInt w0 cl c) :
  Calls Tryz.prog 120 #[sysV S sc se sg,cl] w0 fun e w'=>∃ cv ev gv,e=.returned (.tuple #[sysV (quoS S c) cv ev gv,errV (quoErr S c)])∧SysAt w0 w' cv ev gv (quoS S c):=by
 have hw:=Sat.start w0
 have oS:=hS.ones
 have hsg:=hS.goals
 have hse:=hS.edges
 have hvB:=qfr hv
 obtain⟨a1,a2,a3,a4,a5,a6,a7,aco,aed,_⟩:=id hv
 obtain⟨n,hnS⟩:∃ n:Nat,S.st=(n:Int):=⟨S.st.toNat,by omega⟩
 refine qaf (args:=[sysV S sc se sg,cl]) mixed Tryz.func120 rfl (by kernel_rfl) (Nat.le_of_ble_eq_true rfl) ?_
 unfold sysV
 rw [hnS] at oS ⊢
 repeat (first|refine qac ?_|(refine qaa ?_;clear hw;intro p w hw)|(refine qad ?_;clear hw;intro w hw)|(refine qab ?_;clear hw;intro s w hw))
 rename_i ps ws
 obtain⟨pr,hpr⟩:∃ q,q=p:=⟨p,rfl⟩
 subst hpr
 have hw:Sat w0 w [Box pr 96 [.int .i64 0,.int .i64 0,.slice none 0 0,.slice none 0 0,.slice none 0 0],Box ps 96 [.int .i64 n,.int .i64 S.ini,sc,se,sg]]:=hw
 refine qah rfl (qlN (n:=n) (hc.at hw) (by omega)) ?_
 rintro _ w' ⟨⟨kk,rfl,hkk⟩,hk'⟩;replace hw:=hw.call0 hk';clear hk';refine⟨_,rfl,?_⟩
 repeat (first|refine qac ?_|(refine qaa ?_;clear hw;intro p w hw)|(refine qad ?_;clear hw;intro w hw)|(refine qab ?_;clear hw;intro s w hw))
 refine qah rfl (by have:=qcd (S:=S) (hS.at hw);unfold sysV at this;rw [hnS] at this;exact this) ?_
 rintro _ w' ⟨rfl,hk'⟩;replace hw:=hw.call0 hk';clear hk';refine⟨_,rfl,?_⟩
 rw [hvB]
 by_cases hcb:clsB c n=true
 case neg =>
  have hE:quoErr S c=2:=by unfold quoErr;rw [hnS,if_neg (fun h=>hcb h.2)]
  have hP:quoS S c=sysNo:=by unfold quoS;rw [if_neg (by rw [hE];decide)]
  rw [hE,hP]
  rw [Bool.not_eq_true] at hcb
  rw [hcb]
  repeat (first|refine qac ?_|(refine qaa ?_;clear hw;intro p w hw)|(refine qae ?_;clear hw;intro w hw)|(refine qab ?_;clear hw;intro s w hw))
  refine qap (parts:=[]) (vs:=[]) rfl rfl rfl ?_
  repeat (first|refine qac ?_|(refine qaa ?_;clear hw;intro p w hw)|(refine qae ?_;clear hw;intro w hw)|(refine qab ?_;clear hw;intro s w hw))
  exact qar (p:=pr) (vs:=[.int .i64 0,.int .i64 0,.slice none 0 0,.slice none 0 0,.slice none 0 0]) rfl rfl (v':=errV 2) (by rw [qan (by decide)];rfl) rfl (fun j v hv=>qau (i:=0) hw rfl hv) ⟨_,_,_,rfl,qaO hw⟩
 rw [hcb]
 obtain⟨hkN,hk0,hok⟩:=hkk hcb
 have hE:quoErr S c=0:=by unfold quoErr;rw [hnS,if_pos ⟨hvB,hcb⟩]
 have hP:quoS S c=⟨kk,c.getD S.ini.toNat tInt.dflt,S.costs,cpt (srtL cmpE (S.edges.map (quoM c))),quoG S.goals c kk.toNat⟩:=by unfold quoS;rw [if_pos hE,hnS,←hkN]
 rw [hE,hP]
 obtain⟨k1,k2,k3,k4⟩:=hok
 have hkn:kk≤n:=by
  rcases Int.lt_or_le (n:Int) kk with h|h
  ·have:=(k2 _ (k4 n (by omega) h)).2;omega
  ·exact h
 have hci:∀ i:Nat,i<n→0≤c.getD i tInt.dflt∧c.getD i tInt.dflt<kk:=fun i hi=>by
  have hm:c.getD i tInt.dflt∈c:=qal tInt.dflt (by omega)
  exact⟨(k2 _ hm).1,k3 _ hm⟩
 repeat (first|refine qac ?_|(refine qaa ?_;clear hw;intro p w hw)|(refine qad ?_;clear hw;intro w hw)|(refine qab ?_;clear hw;intro s w hw))
 refine qdh [8,29,30,31,32,33,34,35,36,37,38,39,40] (G:=Addr × Value × Value) (fun x=>[(8,.pointer (some x.1))]) (fun x w=>Sat w0 w [Box x.1 96 [.int .i64 kk,.int .i64 (c.getD S.ini.toNat tInt.dflt),x.2.1,.slice none 0 0,x.2.2],OS tBool 4 x.2.2 (List.replicate kk.toNat false),OS tInt 3 x.2.1 S.costs,Box pr 96 [.int .i64 0,.int .i64 0,.slice none 0 0,.slice none 0 0,.slice none 0 0],Box ps 96 [.int .i64 n,.int .i64 S.ini,sc,se,sg]]) (fun _=>rfl) ?_ ?_
 ·refine qeK (.step 0 [.op 0] (.step 1 [.op 1] (.step 2 [.op 2] (.step 6 [.op 6] (.step 9 [.op 9] (.step 3 [.op 3] (.step 4 [.op 4] (.step 5 [.op 5] (.step 7 [.op 7] (.alt 8 [.op 8,.chk 3,.chk 5] (.alt 10 [.op 10,.chk 3,.chk 5,.chk 7] (.alt 11 [.op 11] (.step 12 [.op 12,.chk 3,.chk 5,.chk 7] (.step 13 [.op 13] (.lin []))) (.alt 12 [.op 12,.chk 3,.chk 5,.chk 7] (.step 11 [.op 11] (.step 13 [.op 13] (.lin []))) (.stop))) (.alt 12 [.op 12,.chk 3,.chk 5,.chk 7] (.step 10 [.op 10,.chk 3,.chk 5,.chk 7] (.step 11 [.op 11] (.step 13 [.op 13] (.lin [])))) (.stop))) (.alt 10 [.op 10,.chk 3,.chk 5,.chk 7] (.alt 8 [.op 8,.chk 3,.chk 5] (.alt 11 [.op 11] (.step 12 [.op 12,.chk 3,.chk 5,.chk 7] (.step 13 [.op 13] (.lin []))) (.alt 12 [.op 12,.chk 3,.chk 5,.chk 7] (.step 11 [.op 11] (.step 13 [.op 13] (.lin []))) (.stop))) (.alt 12 [.op 12,.chk 3,.chk 5,.chk 7] (.step 8 [.op 8,.chk 3,.chk 5] (.step 11 [.op 11] (.step 13 [.op 13] (.lin [])))) (.stop))) (.alt 12 [.op 12,.chk 3,.chk 5,.chk 7] (.alt 8 [.op 8,.chk 3,.chk 5] (.step 10 [.op 10,.chk 3,.chk 5,.chk 7] (.step 11 [.op 11] (.step 13 [.op 13] (.lin [])))) (.alt 10 [.op 10,.chk 3,.chk 5,.chk 7] (.step 8 [.op 8,.chk 3,.chk 5] (.step 11 [.op 11] (.step 13 [.op 13] (.lin [])))) (.stop))) (.stop))))))))))))) hw (by kernel_rfl) (by kernel_rfl) ?_;clear hw;intro w hw
  repeat (first|refine qac ?_|(refine qaa ?_;clear hw;intro p w hw)|(refine qad ?_;clear hw;intro w hw)|(refine qab ?_;clear hw;intro s w hw))
  refine qav ?_ (qav ?_ (qav ?_ qaG))
  ·repeat (first|refine qac ?_|(refine qaa ?_;clear hw;intro p w hw)|(refine qad ?_;clear hw;intro w hw)|(refine qab ?_;clear hw;intro s w hw))
   refine qah rfl (qaB (hS.costs.at hw) (by omega)) ?_;rintro _ w' ⟨cx,rfl,hk'⟩;replace hw:=hw.call1 hk';clear hk';refine⟨_,rfl,?_⟩
   repeat (first|refine qac ?_|(refine qaa ?_;clear hw;intro p w hw)|(refine qad ?_;clear hw;intro w hw)|(refine qab ?_;clear hw;intro s w hw))
   refine qav ?_ (qav ?_ qaG)
   ·repeat (first|refine qac ?_|(refine qaa ?_;clear hw;intro p w hw)|(refine qad ?_;clear hw;intro w hw)|(refine qab ?_;clear hw;intro s w hw))
    refine qav ?_ (qav ?_ qaG)
    ·repeat (first|refine qac ?_|(refine qaa ?_;clear hw;intro p w hw)|(refine qad ?_;clear hw;intro w hw)|(refine qab ?_;clear hw;intro s w hw))
     refine qap (parts:=[(0,.tmp 29),(1,.tmp 34),(2,.tmp 37),(4,.tmp 39)]) (vs:=[(0,.int .i64 kk),(1,.int .i64 (c.getD S.ini.toNat tInt.dflt)),(2,cx),(4,s)]) rfl rfl (by simp only [List.all_cons,List.all_nil,(rsO (s:=cx) hw).one,(rsO (s:=s) hw).one];rfl) ?_
     repeat (first|refine qac ?_|(refine qaa ?_;clear hw;intro p w hw)|(refine qad ?_;clear hw;intro w hw)|(refine qab ?_;clear hw;intro s w hw))
     refine qao (n:=5) (p:=p) (vs:=[.int .i64 kk,.int .i64 (c.getD S.ini.toNat tInt.dflt),cx,.slice none 0 0,s]) rfl rfl hw inferInstance rfl rfl (by simp only [List.all_cons,List.all_nil,(rsO (s:=cx) hw).one,(rsO (s:=s) hw).one];rfl) ?_;clear hw;intro w hw
     repeat (first|refine qac ?_|(refine qaa ?_;clear hw;intro p w hw)|(refine qad ?_;clear hw;intro w hw)|(refine qab ?_;clear hw;intro s w hw))
     exact⟨(p,cx,s),⟨rfl,trivial⟩,agr,hw.sel⟩
    ·repeat (first|refine qac ?_|(refine qaa ?_;clear hw;intro p w hw)|(refine qad ?_;clear hw;intro w hw)|(refine qab ?_;clear hw;intro s w hw))
     refine qap (parts:=[(0,.tmp 29),(1,.tmp 34),(2,.tmp 37),(4,.tmp 39)]) (vs:=[(0,.int .i64 kk),(1,.int .i64 (c.getD S.ini.toNat tInt.dflt)),(2,cx),(4,s)]) rfl rfl (by simp only [List.all_cons,List.all_nil,(rsO (s:=cx) hw).one,(rsO (s:=s) hw).one];rfl) ?_
     repeat (first|refine qac ?_|(refine qaa ?_;clear hw;intro p w hw)|(refine qad ?_;clear hw;intro w hw)|(refine qab ?_;clear hw;intro s w hw))
     refine qao (n:=5) (p:=p) (vs:=[.int .i64 kk,.int .i64 (c.getD S.ini.toNat tInt.dflt),cx,.slice none 0 0,s]) rfl rfl hw inferInstance rfl rfl (by simp only [List.all_cons,List.all_nil,(rsO (s:=cx) hw).one,(rsO (s:=s) hw).one];rfl) ?_;clear hw;intro w hw
     repeat (first|refine qac ?_|(refine qaa ?_;clear hw;intro p w hw)|(refine qad ?_;clear hw;intro w hw)|(refine qab ?_;clear hw;intro s w hw))
     exact⟨(p,cx,s),⟨rfl,trivial⟩,agr,hw.sel⟩
   ·repeat (first|refine qac ?_|(refine qaa ?_;clear hw;intro p w hw)|(refine qad ?_;clear hw;intro w hw)|(refine qab ?_;clear hw;intro s w hw))
    refine qap (parts:=[(0,.tmp 29),(1,.tmp 34),(2,.tmp 37),(4,.tmp 39)]) (vs:=[(0,.int .i64 kk),(1,.int .i64 (c.getD S.ini.toNat tInt.dflt)),(2,cx),(4,s)]) rfl rfl (by simp only [List.all_cons,List.all_nil,(rsO (s:=cx) hw).one,(rsO (s:=s) hw).one];rfl) ?_
    repeat (first|refine qac ?_|(refine qaa ?_;clear hw;intro p w hw)|(refine qad ?_;clear hw;intro w hw)|(refine qab ?_;clear hw;intro s w hw))
    refine qao (n:=5) (p:=p) (vs:=[.int .i64 kk,.int .i64 (c.getD S.ini.toNat tInt.dflt),cx,.slice none 0 0,s]) rfl rfl hw inferInstance rfl rfl (by simp only [List.all_cons,List.all_nil,(rsO (s:=cx) hw).one,(rsO (s:=s) hw).one];rfl) ?_;clear hw;intro w hw
    repeat (first|refine qac ?_|(refine qaa ?_;clear hw;intro p w hw)|(refine qad ?_;clear hw;intro w hw)|(refine qab ?_;clear hw;intro s w hw))
    exact⟨(p,cx,s),⟨rfl,trivial⟩,agr,hw.sel⟩
  ·repeat (first|refine qac ?_|(refine qaa ?_;clear hw;intro p w hw)|(refine qad ?_;clear hw;intro w hw)|(refine qab ?_;clear hw;intro s w hw))
   refine qav ?_ (qav ?_ qaG)
   ·repeat (first|refine qac ?_|(refine qaa ?_;clear hw;intro p w hw)|(refine qad ?_;clear hw;intro w hw)|(refine qab ?_;clear hw;intro s w hw))
    refine qah rfl (qaB (hS.costs.at hw) (by omega)) ?_;rintro _ w' ⟨cx,rfl,hk'⟩;replace hw:=hw.call1 hk';clear hk';refine⟨_,rfl,?_⟩
    repeat (first|refine qac ?_|(refine qaa ?_;clear hw;intro p w hw)|(refine qad ?_;clear hw;intro w hw)|(refine qab ?_;clear hw;intro s w hw))
    refine qav ?_ (qav ?_ qaG)
    ·repeat (first|refine qac ?_|(refine qaa ?_;clear hw;intro p w hw)|(refine qad ?_;clear hw;intro w hw)|(refine qab ?_;clear hw;intro s w hw))
     refine qap (parts:=[(0,.tmp 29),(1,.tmp 34),(2,.tmp 37),(4,.tmp 39)]) (vs:=[(0,.int .i64 kk),(1,.int .i64 (c.getD S.ini.toNat tInt.dflt)),(2,cx),(4,s)]) rfl rfl (by simp only [List.all_cons,List.all_nil,(rsO (s:=cx) hw).one,(rsO (s:=s) hw).one];rfl) ?_
     repeat (first|refine qac ?_|(refine qaa ?_;clear hw;intro p w hw)|(refine qad ?_;clear hw;intro w hw)|(refine qab ?_;clear hw;intro s w hw))
     refine qao (n:=5) (p:=p) (vs:=[.int .i64 kk,.int .i64 (c.getD S.ini.toNat tInt.dflt),cx,.slice none 0 0,s]) rfl rfl hw inferInstance rfl rfl (by simp only [List.all_cons,List.all_nil,(rsO (s:=cx) hw).one,(rsO (s:=s) hw).one];rfl) ?_;clear hw;intro w hw
     repeat (first|refine qac ?_|(refine qaa ?_;clear hw;intro p w hw)|(refine qad ?_;clear hw;intro w hw)|(refine qab ?_;clear hw;intro s w hw))
     exact⟨(p,cx,s),⟨rfl,trivial⟩,agr,hw.sel⟩
    ·repeat (first|refine qac ?_|(refine qaa ?_;clear hw;intro p w hw)|(refine qad ?_;clear hw;intro w hw)|(refine qab ?_;clear hw;intro s w hw))
     refine qap (parts:=[(0,.tmp 29),(1,.tmp 34),(2,.tmp 37),(4,.tmp 39)]) (vs:=[(0,.int .i64 kk),(1,.int .i64 (c.getD S.ini.toNat tInt.dflt)),(2,cx),(4,s)]) rfl rfl (by simp only [List.all_cons,List.all_nil,(rsO (s:=cx) hw).one,(rsO (s:=s) hw).one];rfl) ?_
     repeat (first|refine qac ?_|(refine qaa ?_;clear hw;intro p w hw)|(refine qad ?_;clear hw;intro w hw)|(refine qab ?_;clear hw;intro s w hw))
     refine qao (n:=5) (p:=p) (vs:=[.int .i64 kk,.int .i64 (c.getD S.ini.toNat tInt.dflt),cx,.slice none 0 0,s]) rfl rfl hw inferInstance rfl rfl (by simp only [List.all_cons,List.all_nil,(rsO (s:=cx) hw).one,(rsO (s:=s) hw).one];rfl) ?_;clear hw;intro w hw
     repeat (first|refine qac ?_|(refine qaa ?_;clear hw;intro p w hw)|(refine qad ?_;clear hw;intro w hw)|(refine qab ?_;clear hw;intro s w hw))
     exact⟨(p,cx,s),⟨rfl,trivial⟩,agr,hw.sel⟩
   ·repeat (first|refine qac ?_|(refine qaa ?_;clear hw;intro p w hw)|(refine qad ?_;clear hw;intro w hw)|(refine qab ?_;clear hw;intro s w hw))
    refine qah rfl (qaB (hS.costs.at hw) (by omega)) ?_;rintro _ w' ⟨cx,rfl,hk'⟩;replace hw:=hw.call1 hk';clear hk';refine⟨_,rfl,?_⟩
    repeat (first|refine qac ?_|(refine qaa ?_;clear hw;intro p w hw)|(refine qad ?_;clear hw;intro w hw)|(refine qab ?_;clear hw;intro s w hw))
    refine qap (parts:=[(0,.tmp 29),(1,.tmp 34),(2,.tmp 37),(4,.tmp 39)]) (vs:=[(0,.int .i64 kk),(1,.int .i64 (c.getD S.ini.toNat tInt.dflt)),(2,cx),(4,s)]) rfl rfl (by simp only [List.all_cons,List.all_nil,(rsO (s:=cx) hw).one,(rsO (s:=s) hw).one];rfl) ?_
    repeat (first|refine qac ?_|(refine qaa ?_;clear hw;intro p w hw)|(refine qad ?_;clear hw;intro w hw)|(refine qab ?_;clear hw;intro s w hw))
    refine qao (n:=5) (p:=p) (vs:=[.int .i64 kk,.int .i64 (c.getD S.ini.toNat tInt.dflt),cx,.slice none 0 0,s]) rfl rfl hw inferInstance rfl rfl (by simp only [List.all_cons,List.all_nil,(rsO (s:=cx) hw).one,(rsO (s:=s) hw).one];rfl) ?_;clear hw;intro w hw
    repeat (first|refine qac ?_|(refine qaa ?_;clear hw;intro p w hw)|(refine qad ?_;clear hw;intro w hw)|(refine qab ?_;clear hw;intro s w hw))
    exact⟨(p,cx,s),⟨rfl,trivial⟩,agr,hw.sel⟩
  ·repeat (first|refine qac ?_|(refine qaa ?_;clear hw;intro p w hw)|(refine qad ?_;clear hw;intro w hw)|(refine qab ?_;clear hw;intro s w hw))
   refine qav ?_ (qav ?_ qaG)
   ·repeat (first|refine qac ?_|(refine qaa ?_;clear hw;intro p w hw)|(refine qad ?_;clear hw;intro w hw)|(refine qab ?_;clear hw;intro s w hw))
    refine qah rfl (qaB (hS.costs.at hw) (by omega)) ?_;rintro _ w' ⟨cx,rfl,hk'⟩;replace hw:=hw.call1 hk';clear hk';refine⟨_,rfl,?_⟩
    repeat (first|refine qac ?_|(refine qaa ?_;clear hw;intro p w hw)|(refine qad ?_;clear hw;intro w hw)|(refine qab ?_;clear hw;intro s w hw))
    refine qap (parts:=[(0,.tmp 29),(1,.tmp 34),(2,.tmp 37),(4,.tmp 39)]) (vs:=[(0,.int .i64 kk),(1,.int .i64 (c.getD S.ini.toNat tInt.dflt)),(2,cx),(4,s)]) rfl rfl (by simp only [List.all_cons,List.all_nil,(rsO (s:=cx) hw).one,(rsO (s:=s) hw).one];rfl) ?_
    repeat (first|refine qac ?_|(refine qaa ?_;clear hw;intro p w hw)|(refine qad ?_;clear hw;intro w hw)|(refine qab ?_;clear hw;intro s w hw))
    refine qao (n:=5) (p:=p) (vs:=[.int .i64 kk,.int .i64 (c.getD S.ini.toNat tInt.dflt),cx,.slice none 0 0,s]) rfl rfl hw inferInstance rfl rfl (by simp only [List.all_cons,List.all_nil,(rsO (s:=cx) hw).one,(rsO (s:=s) hw).one];rfl) ?_;clear hw;intro w hw
    repeat (first|refine qac ?_|(refine qaa ?_;clear hw;intro p w hw)|(refine qad ?_;clear hw;intro w hw)|(refine qab ?_;clear hw;intro s w hw))
    exact⟨(p,cx,s),⟨rfl,trivial⟩,agr,hw.sel⟩
   ·repeat (first|refine qac ?_|(refine qaa ?_;clear hw;intro p w hw)|(refine qad ?_;clear hw;intro w hw)|(refine qab ?_;clear hw;intro s w hw))
    refine qah rfl (qaB (hS.costs.at hw) (by omega)) ?_;rintro _ w' ⟨cx,rfl,hk'⟩;replace hw:=hw.call1 hk';clear hk';refine⟨_,rfl,?_⟩
    repeat (first|refine qac ?_|(refine qaa ?_;clear hw;intro p w hw)|(refine qad ?_;clear hw;intro w hw)|(refine qab ?_;clear hw;intro s w hw))
    refine qap (parts:=[(0,.tmp 29),(1,.tmp 34),(2,.tmp 37),(4,.tmp 39)]) (vs:=[(0,.int .i64 kk),(1,.int .i64 (c.getD S.ini.toNat tInt.dflt)),(2,cx),(4,s)]) rfl rfl (by simp only [List.all_cons,List.all_nil,(rsO (s:=cx) hw).one,(rsO (s:=s) hw).one];rfl) ?_
    repeat (first|refine qac ?_|(refine qaa ?_;clear hw;intro p w hw)|(refine qad ?_;clear hw;intro w hw)|(refine qab ?_;clear hw;intro s w hw))
    refine qao (n:=5) (p:=p) (vs:=[.int .i64 kk,.int .i64 (c.getD S.ini.toNat tInt.dflt),cx,.slice none 0 0,s]) rfl rfl hw inferInstance rfl rfl (by simp only [List.all_cons,List.all_nil,(rsO (s:=cx) hw).one,(rsO (s:=s) hw).one];rfl) ?_;clear hw;intro w hw
    repeat (first|refine qac ?_|(refine qaa ?_;clear hw;intro p w hw)|(refine qad ?_;clear hw;intro w hw)|(refine qab ?_;clear hw;intro s w hw))
    exact⟨(p,cx,s),⟨rfl,trivial⟩,agr,hw.sel⟩
 clear hw
 rintro σ ⟨px,cx,gx⟩ w hw
 dsimp only at hw
 rw [←qjI (g:=S.goals) (c:=c)] at hw
 have hgl:∀ m,(quoGK S.goals c kk.toNat m).length=kk.toNat:=fun m=>qb6
 repeat (first|refine qac ?_|(refine qaa ?_;clear hw;intro p w hw)|(refine qad ?_;clear hw;intro w hw)|(refine qab ?_;clear hw;intro s w hw))
 refine qak [9,10,44,45,46,47,48,49,50,51,52,53,54,55,56,57,58,59,60,61,62,63,64,65,66,67] (G:=Nat) (fun m=>[(44,.int .i64 m)]) (fun m w=>m≤S.goals.length∧Sat w0 w [Box px 96 [.int .i64 kk,.int .i64 (c.getD S.ini.toNat tInt.dflt),cx,.slice none 0 0,gx],OS tBool 4 gx (quoGK S.goals c kk.toNat m),OS tInt 3 cx S.costs,Box pr 96 [.int .i64 0,.int .i64 0,.slice none 0 0,.slice none 0 0,.slice none 0 0],Box ps 96 [.int .i64 n,.int .i64 S.ini,sc,se,sg]]) (fun m=>S.goals.length-m) 0 (fun _=>rfl) ⟨rfl,trivial⟩ ⟨Nat.zero_le _,hw⟩ ?_
 ·clear hw
  rintro σ m w ⟨hm,hw⟩
  have hglm:=hgl m
  repeat (first|refine qac ?_|(refine qaa ?_;clear hw;intro p w hw)|(refine qad ?_;clear hw;intro w hw)|(refine qab ?_;clear hw;intro s w hw))
  refine go_if (fun h2 => ?_) (fun h2 => ?_)
  ·have hml:m<S.goals.length:=by omega
   have hcm:=hci m (by omega)
   have hqs:=qjJ (g:=S.goals) (c:=c) (k:=kk.toNat) (m:=m) hcm.1 (by omega)
   obtain⟨hc1,hc2⟩:=hcm
   repeat (first|refine qac ?_|(refine qaa ?_;clear hw;intro p w hw)|(refine qad ?_;clear hw;intro w hw)|(refine qab ?_;clear hw;intro s w hw))
   refine qax [.op 0,.op 1,.op 2,.op 3,.op 4,.op 5,.op 6,.op 7,.op 8,.op 9,.op 10,.op 11,.op 12,.op 13,.op 14,.op 15,.op 16,.op 17,.op 18] hw (by kernel_rfl) ?_;clear hw;intro w hw
   repeat (first|refine qac ?_|(refine qaa ?_;clear hw;intro p w hw)|(refine qad ?_;clear hw;intro w hw)|(refine qab ?_;clear hw;intro s w hw))
   rw [←hqs] at hw
   exact⟨m+1,⟨rfl,trivial⟩,agr,⟨by omega,hw.sel⟩,by omega⟩
  have hmn:m=S.goals.length:=by omega
  subst hmn
  have hqG:quoGK S.goals c kk.toNat S.goals.length=quoG S.goals c kk.toNat:=rfl
  rw [hqG] at hw
  have hw:Sat w0 w [Box px 96 [.int .i64 kk,.int .i64 (c.getD S.ini.toNat tInt.dflt),cx,.slice none 0 0,gx],OS tBool 4 gx (quoG S.goals c kk.toNat),OS tEdg 196 (.slice none 0 0) [],OS tInt 3 cx S.costs,Box pr 96 [.int .i64 0,.int .i64 0,.slice none 0 0,.slice none 0 0,.slice none 0 0],Box ps 96 [.int .i64 n,.int .i64 S.ini,sc,se,sg]]:=(hw.nil (T:=tEdg) (e:=196)).sel
  repeat (first|refine qac ?_|(refine qaa ?_;clear hw;intro p w hw)|(refine qad ?_;clear hw;intro w hw)|(refine qab ?_;clear hw;intro s w hw))
  refine qaq [12,71,72,73,74,75,76,77,78,79,80,81,82,83,84,85,86,87,88,89,90,91,92,93] (G:=Nat) (H:=Value) (fun m ev=>[(71,.int .i64 m)]) (fun m ev w=>m≤S.edges.length∧Sat w0 w [Box px 96 [.int .i64 kk,.int .i64 (c.getD S.ini.toNat tInt.dflt),cx,ev,gx],OS tBool 4 gx (quoG S.goals c kk.toNat),OS tEdg 196 ev ((S.edges.take m).map (quoM c)),OS tInt 3 cx S.costs,Box pr 96 [.int .i64 0,.int .i64 0,.slice none 0 0,.slice none 0 0,.slice none 0 0],Box ps 96 [.int .i64 n,.int .i64 S.ini,sc,se,sg]]) (fun m _=>S.edges.length-m) 0 (.slice none 0 0) (fun _ _=>rfl) ⟨rfl,trivial⟩ ⟨Nat.zero_le _,hw⟩ ?_
  clear hw
  rintro σ m ev w ⟨hm,hw⟩
  repeat (first|refine qac ?_|(refine qaa ?_;clear hw;intro p w hw)|(refine qad ?_;clear hw;intro w hw)|(refine qab ?_;clear hw;intro s w hw))
  refine go_if (fun h3 => ?_) (fun h3 => ?_)
  ·have hml:m<S.edges.length:=by omega
   obtain⟨a,ha⟩:∃ a,a=S.edges.getD m tEdg.dflt:=⟨_,rfl⟩
   have hae:=aed _ (qal tEdg.dflt hml)
   rw [←ha] at hae
   obtain⟨⟨e1,e2⟩,⟨e3,e4⟩,_⟩:=hae
   repeat (first|refine qac ?_|(refine qaa ?_;clear hw;intro p w hw)|(refine qad ?_;clear hw;intro w hw)|(refine qab ?_;clear hw;intro s w hw))
   have hw:Sat w0 w [Box p 196 [.int .i64 a.src,.int .i64 a.lab,.int .i64 a.dst],Box px 96 [.int .i64 kk,.int .i64 (c.getD S.ini.toNat tInt.dflt),cx,ev,gx],OS tBool 4 gx (quoG S.goals c kk.toNat),OS tEdg 196 ev ((S.edges.take m).map (quoM c)),OS tInt 3 cx S.costs,Box pr 96 [.int .i64 0,.int .i64 0,.slice none 0 0,.slice none 0 0,.slice none 0 0],Box ps 96 [.int .i64 n,.int .i64 S.ini,sc,se,sg]]:=by rw [ha];exact hw
   refine qax [.op 0,.op 1,.op 2,.op 3,.op 4,.op 5,.op 6,.op 7,.op 8,.op 9,.op 10,.op 11,.op 12,.op 13,.op 14,.chk 1,.op 15,.chk 1,.op 16,.op 17,.op 18] hw (by kernel_rfl) ?_;clear hw;intro w hw
   repeat (first|refine qac ?_|(refine qaa ?_;clear hw;intro p w hw)|(refine qae ?_;clear hw;intro w hw)|(refine qcq ?_;clear hw;intro s w hw))
   refine qam tEdg (x1:=⟨c.getD a.src.toNat tInt.dflt,a.lab,c.getD a.dst.toNat tInt.dflt⟩) rfl rfl rfl (Nat.le_of_ble_eq_true rfl) (Nat.zero_lt_succ _) hw ?_
   clear hw;intro s2 w hw
   have hlm:((S.edges.take m).map (quoM c)).length=m:=by rw [List.length_map,List.length_take];omega
   repeat (first|refine qac ?_|(refine qaa ?_;clear hw;intro p w hw)|(refine qad ?_;clear hw;intro w hw)|(refine qab ?_;clear hw;intro s w hw))
   simp only [List.set_cons_succ,List.set_cons_zero] at hw
   refine⟨m+1,s,⟨rfl,trivial⟩,agr,⟨by omega,?_⟩,by omega⟩
   rw [qaj tEdg.dflt hml,List.map_append,←ha,show List.map (quoM c) [a]=[⟨c.getD a.src.toNat tInt.dflt,a.lab,c.getD a.dst.toNat tInt.dflt⟩] from rfl]
   exact hw.sel
  rw [List.take_of_length_le (by omega)] at hw
  repeat (first|refine qac ?_|(refine qaa ?_;clear hw;intro p w hw)|(refine qad ?_;clear hw;intro w hw)|(refine qab ?_;clear hw;intro s w hw))
  have hw:Sat w0 w [OS tEdg 196 ev (S.edges.map (quoM c)),Box px 96 [.int .i64 kk,.int .i64 (c.getD S.ini.toNat tInt.dflt),cx,ev,gx],OS tBool 4 gx (quoG S.goals c kk.toNat),OS tInt 3 cx S.costs,Box pr 96 [.int .i64 0,.int .i64 0,.slice none 0 0,.slice none 0 0,.slice none 0 0],Box ps 96 [.int .i64 n,.int .i64 S.ini,sc,se,sg]]:=hw.sel
  refine qah rfl (qib (s:=ev) (xs:=S.edges.map (quoM c)) hw (by rw [List.length_map];omega)) ?_
  rintro _ w' ⟨ex,rfl,hw'⟩;clear hw;have hw:=hw';clear hw';refine⟨_,rfl,?_⟩
  repeat (first|refine qac ?_|(refine qaa ?_;clear hw;intro p w hw)|(refine qad ?_;clear hw;intro w hw)|(refine qab ?_;clear hw;intro s w hw))
  simp only [List.set_cons_succ,List.set_cons_zero] at hw
  have o1:=(rsO (s:=ex) hw).one
  have o2:=(rsO (s:=gx) hw).one
  have o3:=(rsO (s:=cx) hw).one
  refine qao (n:=5) (p:=pr) (vs:=[.int .i64 kk,.int .i64 (c.getD S.ini.toNat tInt.dflt),cx,ex,gx]) rfl rfl hw inferInstance rfl rfl (by simp only [List.all_cons,List.all_nil,o1,o2,o3];rfl) ?_
  clear hw;intro w hw
  repeat (first|refine qac ?_|(refine qaa ?_;clear hw;intro p w hw)|(refine qad ?_;clear hw;intro w hw)|(refine qab ?_;clear hw;intro s w hw))
  refine qar (p:=pr) (vs:=[.int .i64 kk,.int .i64 (c.getD S.ini.toNat tInt.dflt),cx,ex,gx]) rfl rfl (v':=errV 0) (by rw [qas rfl];rfl) rfl (fun j v hv=>qau (i:=4) hw rfl hv) ⟨cx,ex,gx,rfl,?_⟩
  exact hw.sel
end Go.Proofs.YtjdlohdcdmhigaaGreatDoor
