/-
  Contracts of shrink.pair, Merge.
-/
import Derived.Test.YtjdlohdcdmhigaaGreatDoorWBis
import Derived.Test.YtjdlohdcdmhigaaGreatDoorMTA
set_option linter.unusedSimpArgs false
set_option linter.unusedVariables false
namespace Go.Proofs.YtjdlohdcdmhigaaGreatDoor
open Go.Sl Go
attribute [local irreducible] vc opsW opsD opV opW PureV ReadV Thn Blk
set_option maxRecDepth 8000 in
set_option maxHeartbeats 4000000 in
theorem qj0 {w0:World}{v:Value}{g:List Bool}(hl:RS tBool w0 v g) (hn:g.length≤65536) :
  Calls Tryz.prog 148 #[v] w0 fun e w'=>e=.returned (.tuple #[.int .i64 ((prF g).1:Nat),.int .i64 ((prF g).2:Nat)])∧Sat w0 w' []:=by
 have hw:=Sat.start w0
 refine qaf (args:=[v]) mixed Tryz.func148 rfl (by kernel_rfl) (Nat.le_of_ble_eq_true rfl) ?_
 repeat (first|refine qac ?_|(refine qaa ?_;clear hw;intro p w hw)|(refine qae ?_;clear hw;intro w hw)|(refine qab ?_;clear hw;intro s w hw))
 refine qak [2,3,4,5,9,10,11,12,13,14,15,16,17,18,19,20,21,22,23,24,25,26,27,28,29] (G:=Nat) (fun K=>[(4,.int .i64 ((K:Int)-1))]) (fun K w=>K≤g.length∧prK g K=prF g∧Sat w0 w []) (fun K=>K) g.length (fun _=>rfl) ⟨rfl,trivial⟩ ⟨Nat.le_refl _,rfl,hw⟩ ?_
 clear hw
 rintro σ K w ⟨hK,hp,hw⟩
 repeat (first|refine qac ?_|(refine qaa ?_;clear hw;intro p w hw)|(refine qae ?_;clear hw;intro w hw)|(refine qab ?_;clear hw;intro s w hw))
 refine go_if (fun h1 => ?_) (fun h1 => ?_)
 ·obtain⟨k,rfl⟩:∃ k,K=k+1:=⟨K-1,by omega⟩
  have hk0:k≠0:=by omega
  unfold prK at hp
  rw [if_neg hk0] at hp
  have ek:(((k+1:Nat):Int)-1)=(k:Int):=by omega
  rw [ek]
  repeat (first|refine qac ?_|(refine qaa ?_;clear hw;intro p w hw)|(refine qae ?_;clear hw;intro w hw)|(refine qab ?_;clear hw;intro s w hw))
  refine qak [2,3,5,15,16,17,18,19,20,21,22,23,24,25,26,27,28,29] (G:=Nat) (fun I=>[(5,.int .i64 ((I:Int)-1))]) (fun I w=>I≤k∧prI g k I=prI g k k∧Sat w0 w []) (fun I=>I) k (fun _=>rfl) ⟨rfl,trivial⟩ ⟨Nat.le_refl _,rfl,hw⟩ ?_
  clear hw
  rintro σ I w ⟨hI,hpi,hw⟩
  repeat (first|refine qac ?_|(refine qaa ?_;clear hw;intro p w hw)|(refine qae ?_;clear hw;intro w hw)|(refine qab ?_;clear hw;intro s w hw))
  refine go_if (fun h2 => ?_) (fun h2 => ?_)
  ·obtain⟨i,rfl⟩:∃ i,I=i+1:=⟨I-1,by omega⟩
   have ei:(((i+1:Nat):Int)-1)=(i:Int):=by omega
   rw [ei]
   rw [show prI g k (i+1)=if g.getD i tBool.dflt=g.getD k tBool.dflt then some i else prI g k i from rfl] at hpi
   repeat (first|refine qac ?_|(refine qaa ?_;clear hw;intro p w hw)|(refine qae ?_;clear hw;intro w hw)|(refine qab ?_;clear hw;intro s w hw))
   by_cases he:g.getD i tBool.dflt=g.getD k tBool.dflt
   ·rw [if_pos he] at hpi
    rw [←hpi] at hp
    have hq:(g.getD i tBool.dflt == g.getD k tBool.dflt)=true:=by rw [he];exact beq_self_eq_true _
    rw [hq]
    repeat (first|refine qac ?_|(refine qaa ?_;clear hw;intro p w hw)|(refine qae ?_;clear hw;intro w hw)|(refine qab ?_;clear hw;intro s w hw))
    exact qay (v:=.int .i64 (i:Nat)) (v':=.int .i64 (k:Nat)) rfl rfl rfl ⟨by rw [←hp],hw⟩
   ·rw [if_neg he] at hpi
    have hq:(g.getD i tBool.dflt == g.getD k tBool.dflt)=false:=by rw [beq_eq_false_iff_ne];exact he
    rw [hq]
    repeat (first|refine qac ?_|(refine qaa ?_;clear hw;intro p w hw)|(refine qae ?_;clear hw;intro w hw)|(refine qab ?_;clear hw;intro s w hw))
    exact⟨i,⟨rfl,trivial⟩,agr,⟨by omega,hpi,hw⟩,by omega⟩
  have hI0:I=0:=by omega
  subst hI0
  rw [←hpi] at hp
  repeat (first|refine qac ?_|(refine qaa ?_;clear hw;intro p w hw)|(refine qae ?_;clear hw;intro w hw)|(refine qab ?_;clear hw;intro s w hw))
  exact⟨k,⟨rfl,trivial⟩,agr,⟨by omega,hp,hw⟩,by omega⟩
 have hp2:prF g=(0,1):=by
  rw [←hp]
  rcases Nat.lt_or_ge K 1 with h|h
  ·have:K=0:=by omega
   subst this;rfl
  ·have:K=1:=by omega
   subst this;rfl
 rw [hp2]
 repeat (first|refine qac ?_|(refine qaa ?_;clear hw;intro p w hw)|(refine qae ?_;clear hw;intro w hw)|(refine qab ?_;clear hw;intro s w hw))
 exact qay (v:=.int .i64 0) (v':=.int .i64 1) rfl rfl rfl ⟨rfl,hw⟩
noncomputable def mrgR (S:SysV) (most:Int):List Int:=if valB S=true then mrgC S most else []
set_option maxRecDepth 8000 in
set_option maxHeartbeats 16000000 in
theorem qlE {w0:World}{sc se sg:Value}{S:SysV}{most:Int}(hS:RSys w0 sc se sg S) (hT:TabI w0) :
  Calls Tryz.prog 117 #[sysV S sc se sg,.int .i64 most] w0 fun e w'=>∃ v,e=.returned (.tuple #[v,errV (dstE S)])∧(valB S=true→0<(mrgC S most).length∧∀ x∈mrgC S most,0≤x∧x≤65536)∧Sat w0 w' [OS tInt 3 v (mrgR S most)]:=by
 have hw:=Sat.start w0
 have oS:=hS.ones
 have hsg:=hS.goals
 refine qaf (args:=[sysV S sc se sg,.int .i64 most]) mixed Tryz.func117 rfl (by kernel_rfl) (Nat.le_of_ble_eq_true rfl) ?_
 unfold sysV
 repeat (first|refine qac ?_|(refine qaa ?_;clear hw;intro p w hw)|(refine qad ?_;clear hw;intro w hw)|(refine qab ?_;clear hw;intro s w hw))
 have hw:Sat w0 w [Box p 96 [.int .i64 S.st,.int .i64 S.ini,sc,se,sg]]:=hw
 obtain⟨ps,hps⟩:∃ q,q=p:=⟨p,rfl⟩
 subst hps
 refine qah rfl (qhq (S:=S) (hS.at hw) (hT.at hw)) ?_
 rintro _ w' ⟨cv,rfl,hbl,hk'⟩;replace hw:=hw.call1 hk';clear hk';refine⟨_,rfl,?_⟩
 by_cases hv:valB S=true
 case neg =>
  have hE:dstE S=2:=by unfold dstE;rw [if_neg hv]
  have hR:mrgR S most=[]:=by unfold mrgR;rw [if_neg hv]
  rw [hE,hR,qan (by decide)]
  repeat (first|refine qac ?_|(refine qaa ?_;clear hw;intro p w hw)|(refine qae ?_;clear hw;intro w hw)|(refine qab ?_;clear hw;intro s w hw))
  exact qay (v:=.slice none 0 0) (v':=.iface 63 (.int .i64 2)) rfl rfl rfl ⟨.slice none 0 0,rfl,(fun h=>absurd h hv),(qbb hw).nil⟩
 have hvs:ValS S:=Classical.byContradiction fun h=>by rw [qb5 h] at hv;cases hv
 have hE:dstE S=0:=by unfold dstE;rw [if_pos hv]
 have hR:mrgR S most=mrgC S most:=by unfold mrgR;rw [if_pos hv]
 have hbR:bisR S=bsL S:=by unfold bisR;rw [if_pos hv]
 rw [hE,hR,qas rfl]
 obtain⟨a1,a2,a3,a4,a5,a6,a7,_⟩:=id hvs
 obtain⟨L,hLl,hLe⟩:=hbl hv
 obtain⟨n,hn⟩:∃ n,n=S.st.toNat:=⟨_,rfl⟩
 have hgl:S.goals.length=n:=by omega
 obtain⟨C0,hC0⟩:∃ C,C=bsL S:=⟨_,rfl⟩
 have hC0l:C0.length=n:=by rw [hC0,hLe,qci];omega
 have hC0e:∀ x∈C0,0≤x∧x<4096:=fun x hx=>by
  rw [hC0,hLe] at hx
  obtain⟨i,hi,rfl⟩:=List.getElem_of_mem hx
  have h1:=qcX (l:=L) (i:=i) (by rw [qci] at hi;exact hi)
  rw [getD_at hi] at h1
  have:=qcj L
  omega
 have hmx:=qhw (l:=C0) (by omega)
 have hmb:=hC0e _ hmx
 rw [hbR,←hC0] at hw
 repeat (first|refine qac ?_|(refine qaa ?_;clear hw;intro p w hw)|(refine qad ?_;clear hw;intro w hw)|(refine qab ?_;clear hw;intro s w hw))
 obtain⟨M,hM⟩:∃ M:Nat,(M:Int)=max 1 (min most 4096):=⟨(max 1 (min most 4096)).toNat,by omega⟩
 have hM2:(if (if (4096:Int)<most then 4096 else most)>1 then (if (4096:Int)<most then 4096 else most) else 1)=(M:Int):=by
  rw [hM]
  repeat' split
  all_goals omega
 rw [hM2]
 have hMt:(max 1 (min most 4096)).toNat=M:=by omega
 have hM1:1≤M:=by omega
 refine qah rfl (qfv (l:=C0) (rsO (s:=cv) hw) (by omega)) ?_
 rintro _ w' ⟨rfl,hk'⟩;replace hw:=hw.call0 hk';clear hk';refine⟨_,rfl,?_⟩
 refine qcK ?_
 refine ql4 tBool false (n:=maxQ C0+1) rfl rfl rfl rfl (by omega) (by show (1:Int)*_≤_;omega) (by omega) hw ?_
 clear hw;intro bg w hw
 obtain⟨m,hm⟩:∃ m,m=(maxQ C0+1).toNat:=⟨_,rfl⟩
 have hm1:(m:Int)=maxQ C0+1:=by omega
 rw [←hm] at hw ⊢
 have hC0m:∀ i:Nat,i<n→0≤C0.getD i tInt.dflt∧C0.getD i tInt.dflt<m:=fun i hi=>by
  have hx:C0.getD i tInt.dflt∈C0:=qal tInt.dflt (by omega)
  have h1:=qnM hx
  have h2:=hC0e _ hx
  omega
 rw [←qkr (g:=S.goals) (c:=C0)] at hw
 repeat (first|refine qac ?_|(refine qaa ?_;clear hw;intro p w hw)|(refine qad ?_;clear hw;intro w hw)|(refine qab ?_;clear hw;intro s w hw))
 have hw:Sat w0 w [OS tBool 4 (.slice (some ⟨bg,0,none⟩) m m) (mgGK S.goals C0 m 0),OS tInt 3 cv C0,Box ps 96 [.int .i64 S.st,.int .i64 S.ini,sc,se,sg]]:=hw.sel
 refine qak [9,10,32,33,34,35,36,37,38,39,40,41,42,43,44,45] (G:=Nat) (fun k=>[(32,.int .i64 k)]) (fun k w=>k≤n∧Sat w0 w [OS tBool 4 (.slice (some ⟨bg,0,none⟩) m m) (mgGK S.goals C0 m k),OS tInt 3 cv C0,Box ps 96 [.int .i64 S.st,.int .i64 S.ini,sc,se,sg]]) (fun k=>n-k) 0 (fun _=>rfl) ⟨rfl,trivial⟩ ⟨Nat.zero_le _,hw⟩ ?_
 clear hw
 rintro σ k w ⟨hk,hw⟩
 have hgkl:(mgGK S.goals C0 m k).length=m:=qck
 repeat (first|refine qac ?_|(refine qaa ?_;clear hw;intro p w hw)|(refine qad ?_;clear hw;intro w hw)|(refine qab ?_;clear hw;intro s w hw))
 refine go_if (fun h2 => ?_) (fun h2 => ?_)
 ·have hkl:k<n:=by omega
  obtain⟨hx0,hx1⟩:=hC0m k hkl
  have hgs:=qkt (g:=S.goals) (c:=C0) (k:=m) (m:=k) hx0 hx1
  repeat (first|refine qac ?_|(refine qaa ?_;clear hw;intro p w hw)|(refine qad ?_;clear hw;intro w hw)|(refine qab ?_;clear hw;intro s w hw))
  rw [←hgs] at hw
  exact⟨k+1,⟨rfl,trivial⟩,agr,⟨by omega,hw.sel⟩,by omega⟩
 have hkn:k=n:=by omega
 have hG0:mgGK S.goals C0 m n=mgG S.goals C0 m:=by rw [←hC0l];rfl
 rw [hkn,hG0] at hw
 have hG0l:(mgG S.goals C0 m).length=m:=by rw [←hG0];exact qck
 repeat (first|refine qac ?_|(refine qaa ?_;clear hw;intro p w hw)|(refine qad ?_;clear hw;intro w hw)|(refine qab ?_;clear hw;intro s w hw))
 have hw:Sat w0 w [OS tBool 4 (.slice (some ⟨bg,0,none⟩) (mgG S.goals C0 m).length m) (mgG S.goals C0 m),OS tInt 3 cv C0,Box ps 96 [.int .i64 S.st,.int .i64 S.ini,sc,se,sg]]:=by rw [hG0l];exact hw.sel
 refine qaq [8,11,12,13,14,46,47,48,49,50,51,52,53,54,55,56,57,58,59,60,61,62,63,64,65,66,67,68,69,70,71,72,73,74,75,76,77,78,79,80,81,82] (G:=List Int) (H:=List Bool) (fun C G=>[(8,.slice (some ⟨bg,0,none⟩) G.length m)]) (fun C G w=>C.length=n∧G.length≤m∧(∀ x∈C,0≤x∧x≤65536)∧(∃ j,itr (mgStep M) j (C0,mgG S.goals C0 m)=(C,G))∧Sat w0 w [OS tBool 4 (.slice (some ⟨bg,0,none⟩) G.length m) G,OS tInt 3 cv C,Box ps 96 [.int .i64 S.st,.int .i64 S.ini,sc,se,sg]]) (fun C G=>G.length) C0 (mgG S.goals C0 m) (fun _ _=>rfl) ⟨by rw [hG0l];rfl,trivial⟩ ⟨hC0l,by omega,fun x hx=>by have:=hC0e x hx;omega,⟨0,rfl⟩,hw⟩ ?_
 clear hw
 rintro σ C G w ⟨hCl,hGl,hCe,⟨j,hj⟩,hw⟩
 repeat (first|refine qac ?_|(refine qaa ?_;clear hw;intro p w hw)|(refine qad ?_;clear hw;intro w hw)|(refine qab ?_;clear hw;intro s w hw))
 refine go_if (fun h3 => ?_) (fun h3 => ?_)
 ·have hGM:M<G.length:=by omega
  obtain⟨hp1,hp2⟩:=qop (g:=G) (by omega)
  have hstep:itr (mgStep M) (j+1) (C0,mgG S.goals C0 m)=(C.map (mgC (prF G).1 (prF G).2),G.eraseIdx (prF G).2):=by
   show mgStep M (itr (mgStep M) j _)=_
   rw [hj]
   unfold mgStep
   rw [if_neg (by show ¬G.length≤M;omega)]
  obtain⟨pi,hpi⟩:∃ q,q=(prF G).1:=⟨_,rfl⟩
  obtain⟨pk,hpk⟩:∃ q,q=(prF G).2:=⟨_,rfl⟩
  repeat (first|refine qac ?_|(refine qaa ?_;clear hw;intro p w hw)|(refine qad ?_;clear hw;intro w hw)|(refine qab ?_;clear hw;intro s w hw))
  refine qah rfl (qj0 (g:=G) (rsO (s:=.slice (some ⟨bg,0,none⟩) G.length m) hw) (by omega)) ?_
  rintro _ w' ⟨rfl,hk'⟩;replace hw:=hw.call0 hk';clear hk';refine⟨_,rfl,?_⟩
  rw [←hpi,←hpk] at hp1 hstep ⊢
  rw [←hpk] at hp2
  repeat (first|refine qac ?_|(refine qaa ?_;clear hw;intro p w hw)|(refine qad ?_;clear hw;intro w hw)|(refine qab ?_;clear hw;intro s w hw))
  have hw:Sat w0 w' [OS tBool 4 (.slice (some ⟨bg,0,none⟩) G.length m) G,OS tInt 3 cv ((C.take 0).map (mgC pi pk)++C.drop 0),Box ps 96 [.int .i64 S.st,.int .i64 S.ini,sc,se,sg]]:=hw
  refine qak [13,14,57,58,59,60,61,62,63,64,65,66,67,68,69,70,71,72,73,74,75,76,77] (G:=Nat) (fun k=>[(57,.int .i64 k)]) (fun k w=>k≤n∧Sat w0 w [OS tBool 4 (.slice (some ⟨bg,0,none⟩) G.length m) G,OS tInt 3 cv ((C.take k).map (mgC pi pk)++C.drop k),Box ps 96 [.int .i64 S.st,.int .i64 S.ini,sc,se,sg]]) (fun k=>n-k) 0 (fun _=>rfl) ⟨rfl,trivial⟩ ⟨Nat.zero_le _,hw⟩ ?_
  clear hw
  rintro σ k w ⟨hk,hw⟩
  have hkl0:((C.take k).map (mgC pi pk)).length=k:=by rw [List.length_map,List.length_take];omega
  have hll:((C.take k).map (mgC pi pk)++C.drop k).length=n:=by rw [List.length_append,hkl0,List.length_drop];omega
  repeat (first|refine qac ?_|(refine qaa ?_;clear hw;intro p w hw)|(refine qad ?_;clear hw;intro w hw)|(refine qab ?_;clear hw;intro s w hw))
  refine go_if (fun h4 => ?_) (fun h4 => ?_)
  ·have hkl:k<n:=by omega
   obtain⟨x,hx⟩:∃ x,x=C.getD k tInt.dflt:=⟨_,rfl⟩
   have hxe:=hCe _ (qal tInt.dflt (show k<C.length by omega))
   rw [←hx] at hxe
   have hge:((C.take k).map (mgC pi pk)++C.drop k).getD k tInt.dflt=x:=by
    rw [hx,List.getD_eq_getElem?_getD,List.getElem?_append_right (by omega),hkl0,Nat.sub_self,List.getElem?_drop,Nat.add_zero,←List.getD_eq_getElem?_getD]
   have hset:∀ y,y=mgC pi pk x→((C.take k).map (mgC pi pk)++C.drop k).set k y=(C.take (k+1)).map (mgC pi pk)++C.drop (k+1):=fun y hy=>by
    have hdk:C.drop k=C.getD k tInt.dflt::C.drop (k+1):=by rw [List.drop_eq_getElem_cons (show k<C.length by omega),getD_at]
    rw [hdk,List.set_append_right _ _ (by omega),hkl0,Nat.sub_self,List.set_cons_zero,qaj tInt.dflt (show k<C.length by omega),List.map_append,List.append_assoc,hy,←hx]
    rfl
   have hsame:mgC pi pk x=x→((C.take k).map (mgC pi pk)++C.drop k)=(C.take (k+1)).map (mgC pi pk)++C.drop (k+1):=fun h=>by
    have hdk:C.drop k=C.getD k tInt.dflt::C.drop (k+1):=by rw [List.drop_eq_getElem_cons (show k<C.length by omega),getD_at]
    rw [hdk,qaj tInt.dflt (show k<C.length by omega),List.map_append,List.append_assoc,←hx,List.map_cons,h]
    rfl
   repeat (first|refine qac ?_|(refine qaa ?_;clear hw;intro p w hw)|(refine qad ?_;clear hw;intro w hw)|(refine qab ?_;clear hw;intro s w hw))
   rw [hge]
   by_cases c1:x=(pk:Int)
   ·have e1:mgC pi pk x=(pi:Int):=by unfold mgC;rw [if_pos c1]
    have d1:decide (x=(pk:Int))=true:=decide_eq_true c1
    have d2:decide ((pk:Int)<x)=false:=decide_eq_false (by omega)
    rw [d1]
    repeat (first|refine qac ?_|(refine qaa ?_;clear hw;intro p w hw)|(refine qad ?_;clear hw;intro w hw)|(refine qab ?_;clear hw;intro s w hw))
    rw [hset _ e1.symm] at hw
    rw [d2]
    repeat (first|refine qac ?_|(refine qaa ?_;clear hw;intro p w hw)|(refine qad ?_;clear hw;intro w hw)|(refine qab ?_;clear hw;intro s w hw))
    exact⟨k+1,⟨rfl,trivial⟩,agr,⟨by omega,hw.sel⟩,by omega⟩
   have d1:decide (x=(pk:Int))=false:=decide_eq_false c1
   rw [d1]
   by_cases c2:x>(pk:Int)
   ·have e1:mgC pi pk x=x-1:=by unfold mgC;rw [if_neg c1,if_pos c2]
    have d2:decide ((pk:Int)<x)=true:=decide_eq_true c2
    repeat (first|refine qac ?_|(refine qaa ?_;clear hw;intro p w hw)|(refine qad ?_;clear hw;intro w hw)|(refine qab ?_;clear hw;intro s w hw))
    rw [d2]
    repeat (first|refine qac ?_|(refine qaa ?_;clear hw;intro p w hw)|(refine qad ?_;clear hw;intro w hw)|(refine qab ?_;clear hw;intro s w hw))
    rw [hset _ e1.symm] at hw
    exact⟨k+1,⟨rfl,trivial⟩,agr,⟨by omega,hw.sel⟩,by omega⟩
   ·have e1:mgC pi pk x=x:=by unfold mgC;rw [if_neg c1,if_neg c2]
    have d2:decide ((pk:Int)<x)=false:=decide_eq_false (by omega)
    repeat (first|refine qac ?_|(refine qaa ?_;clear hw;intro p w hw)|(refine qad ?_;clear hw;intro w hw)|(refine qab ?_;clear hw;intro s w hw))
    rw [d2]
    repeat (first|refine qac ?_|(refine qaa ?_;clear hw;intro p w hw)|(refine qad ?_;clear hw;intro w hw)|(refine qab ?_;clear hw;intro s w hw))
    rw [hsame e1] at hw
    exact⟨k+1,⟨rfl,trivial⟩,agr,⟨by omega,hw.sel⟩,by omega⟩
  have hkn2:k=n:=by omega
  rw [hkn2,List.take_of_length_le (by omega),List.drop_eq_nil_of_le (by omega),List.append_nil] at hw
  have hCe2:∀ x∈C.map (mgC pi pk),0≤x∧x≤65536:=fun x hx=>by
   obtain⟨y,hy,rfl⟩:=List.mem_map.1 hx
   have:=hCe y hy
   unfold mgC
   split
   ·omega
   ·split <;> omega
  repeat (first|refine qac ?_|(refine qaa ?_;clear hw;intro p w hw)|(refine qad ?_;clear hw;intro w hw)|(refine qab ?_;clear hw;intro s w hw))
  refine qah rfl (qm5 (k:=pk) hw (by omega) hp2) ?_
  rintro _ w' ⟨rfl,hw'⟩;clear hw;have hw:=hw';clear hw';refine⟨_,rfl,?_⟩
  have hel:(G.eraseIdx pk).length=G.length-1:=List.length_eraseIdx_of_lt hp2
  repeat (first|refine qac ?_|(refine qaa ?_;clear hw;intro p w hw)|(refine qad ?_;clear hw;intro w hw)|(refine qab ?_;clear hw;intro s w hw))
  exact⟨C.map (mgC pi pk),G.eraseIdx pk,⟨rfl,trivial⟩,agr,⟨by rw [List.length_map];exact hCl,by omega,hCe2,⟨j+1,hstep⟩,hw.sel⟩,by omega⟩
 have hfx:mrgC S most=C:=by
  unfold mrgC
  rw [hMt,←hC0,←hm,fixF_eq (qhC M) (n:=j) (by rw [hj];unfold mgDone;exact decide_eq_true (by show G.length≤M;omega)),hj]
 rw [hfx]
 repeat (first|refine qac ?_|(refine qaa ?_;clear hw;intro p w hw)|(refine qad ?_;clear hw;intro w hw)|(refine qab ?_;clear hw;intro s w hw))
 exact qay (v:=cv) (v':=.nilIface) rfl rfl rfl ⟨cv,rfl,fun _=>⟨by omega,hCe⟩,hw.sel⟩
end Go.Proofs.YtjdlohdcdmhigaaGreatDoor
