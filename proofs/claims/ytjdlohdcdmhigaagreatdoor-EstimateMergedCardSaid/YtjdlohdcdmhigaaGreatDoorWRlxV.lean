/-
  Contract of the relaxation's 'values': the least values of all facts.
-/
import Derived.Test.YtjdlohdcdmhigaaGreatDoorMW12
import Derived.Test.YtjdlohdcdmhigaaGreatDoorWRlxHeap
import Derived.Test.YtjdlohdcdmhigaaGreatDoorMTA
import Derived.Test.YtjdlohdcdmhigaaGreatDoorMSlB
set_option linter.unusedSimpArgs false
set_option linter.unusedVariables false
namespace Go.Proofs.YtjdlohdcdmhigaaGreatDoor
open Go.Sl Go
attribute [local irreducible] vc opsW opsD opV opW PureV ReadV Thn Blk
set_option maxRecDepth 8000 in
set_option maxHeartbeats 2000000 in
theorem qcR {w0 w:World}{Γ:List HP}{po pq:Addr}{ov qv:Value}{D:List Int}{Q:List Item}{N:Nat}{g v:Int}(hl:D.length=N) (hg:0≤g∧g<N) (hQ:IsHeap tItem.dflt ilt Q) (hql:Q.length<1099511627776)
  (hw:Sat w0 w (OS tItem 356 qv Q::Box pq 353 [qv]::OS tInt 3 ov D::Box po 22 [ov]::Γ)) :
  Calls Tryz.prog 267 #[.int .i64 g,.int .i64 v,.pointer (some po),.pointer (some pq)] w fun e w'=>e=.returned (.tuple #[])∧∃ qv' Q',IsHeap tItem.dflt ilt Q'∧Q'.Perm (rchQ D Q g v) ∧
   Sat w0 w' (OS tItem 356 qv' Q'::Box pq 353 [qv']::OS tInt 3 ov (rchD D g v)::Box po 22 [ov]::Γ):=by
 refine qaf (args:=[.int .i64 g,.int .i64 v,.pointer (some po),.pointer (some pq)]) mixed Tryz.func267 rfl (by kernel_rfl) (Nat.le_of_ble_eq_true rfl) ?_
 repeat (first|refine qac ?_|(refine qaa ?_;clear hw;intro p w hw)|(refine qae ?_;clear hw;intro w hw)|(refine qab ?_;clear hw;intro s w hw))
 refine go_if (fun h1 => ?_) (fun h1 => ?_)
 ·have e1:rchD D g v=D.set g.toNat v:=if_pos h1
  have e2:rchQ D Q g v=⟨v,g⟩::Q:=if_pos h1
  rw [e1,e2]
  repeat (first|refine qac ?_|(refine qaa ?_;clear hw;intro p w hw)|(refine qae ?_;clear hw;intro w hw)|(refine qab ?_;clear hw;intro s w hw))
  refine qah rfl (qeS (v:=⟨v,g⟩) hQ hql hw) ?_
  clear hw
  rintro _ w ⟨rfl,qv',Q',h2,h3,hw⟩
  refine⟨_,rfl,?_⟩
  repeat (first|refine qac ?_|(refine qaa ?_;clear hw;intro p w hw)|(refine qae ?_;clear hw;intro w hw)|(refine qab ?_;clear hw;intro s w hw))
  exact qaL rfl ⟨rfl,qv',Q',h2,h3,hw⟩
 ·have e1:rchD D g v=D:=if_neg (Int.not_lt.2 h1)
  have e2:rchQ D Q g v=Q:=if_neg (Int.not_lt.2 h1)
  rw [e1,e2]
  repeat (first|refine qac ?_|(refine qaa ?_;clear hw;intro p w hw)|(refine qae ?_;clear hw;intro w hw)|(refine qab ?_;clear hw;intro s w hw))
  exact qaL rfl ⟨rfl,qv,Q,hQ,.refl _,hw⟩
theorem qmE (n:Nat) (v:Int):fillL n (fun _=>v) n=List.replicate n v:=by
 apply List.ext_getElem (by simp [fillL])
 intro i h1 h2
 simp only [fillL,List.getElem_map,List.getElem_range,List.getElem_replicate]
 rw [if_pos (by simpa [fillL] using h1)]
theorem qot (dn l:List Int):lft dn l≤l.length:=List.length_filter_le _ _
theorem qmF {w:World}{v:UnV}{u:Un}(h:RUn w v u):(tUn.enc v).all Value.oneCell'=true:=by
 have h1:=h.needs.one
 show ((Value.int .i64 v.op).oneCell' && ((Value.int .i64 v.eff).oneCell' && ((Value.int .i64 v.cost).oneCell' && ((Value.int .i64 v.makes).oneCell' && (v.needs.oneCell' && true)))))=true
 rw [h1];rfl
instance rlxMapT:MapT Tryz.prog 351 3 4:=⟨by kernel_rfl⟩
instance rlxZeroB:ZeroV Tryz.prog 4 (.bool false):=⟨by kernel_rfl⟩
set_option maxRecDepth 8000 in
set_option maxHeartbeats 16000000 in
theorem qhj {w0:World}{pr:Addr}{sv:Value}{t:TTask}{z:List Int}(hr:RRlx w0 pr t) (hg:GoodT t) (hs:RS tInt w0 sv z) (hok:StateOk t.vars z) :
  Calls Tryz.prog 266 #[.pointer (some pr),sv,.map none] w0 fun e w'=>∃ ov out,e=.returned ov∧IsHM t z out∧Sat w0 w' [OS tInt 3 ov out]:=by
 obtain⟨a,c,fv,uv,nv,frv,us,ss,hbx,ha,hc,hf,huv,hul,hU,hnv,hssl,hnd,hfr⟩:=hr.ex
 obtain⟨U,hUe⟩:∃ U,U=unT t:=⟨_,rfl⟩
 rw [←hUe] at hul hU hnd hfr
 have hUok:UnOk U (factN t):=by rw [hUe];exact qnu hg
 have hUl:U.length≤262144:=by
  have h1:=qhN hg (k:=t.ops.length) (Nat.le_refl _)
  have h2:=hg.ops
  rw [hUe];unfold unT;omega
 have hN:=qiN hg
 have hvl:=hg.vars
 have hsl:=hok.1
 obtain⟨N,hNe⟩:∃ N,N=factN t:=⟨_,rfl⟩
 rw [←hNe] at hbx hssl hnd hUok hN
 have hfN:(N:Int)=firstV t.vars t.vars.length:=by rw [hNe];exact qda hg
 have hr0:(List.replicate ((N:Nat):Int).toNat (0:Int)).length=N:=by simp
 have hr1:(List.replicate ((us.length:Nat):Int).toNat (0:Int)).length=U.length:=by simp [hul]
 have hw:=Sat.start w0
 refine qaf (args:=[.pointer (some pr),sv,.map none]) mixed Tryz.func266 rfl (by kernel_rfl) (Nat.le_of_ble_eq_true rfl) ?_
 repeat (first|refine qac ?_|(refine qaa ?_;clear hw;intro p w hw)|(refine qad ?_;clear hw;intro w hw)|(refine qab ?_;clear hw;intro s w hw))
 obtain⟨p7,hp7⟩:∃ p7,p7=p:=⟨p,rfl⟩
 subst hp7
 obtain⟨ov,hov⟩:∃ ov,ov=s:=⟨s,rfl⟩
 subst hov
 have hw1:Sat w0 w [OS tInt 3 ov (fillL N (fun _=>inf) 0),Box p7 22 [ov]]:=by
  rw [Int.toNat_natCast,←qfa N (fun _=>inf)] at hw
  exact hw.swap
 clear hw
 have hw:=hw1
 clear hw1
 refine qak [8,30,31,32,33,34,35,36] (G:=Nat) (fun k=>[(30,.int .i64 k)]) (fun k w=>k≤N∧Sat w0 w [OS tInt 3 ov (fillL N (fun _=>inf) k),Box p7 22 [ov]]) (fun k=>N-k) 0 (fun _=>rfl) ⟨rfl,trivial⟩ ⟨Nat.zero_le _,hw⟩ ?_
 clear hw
 rintro σ k w ⟨hk,hw⟩
 have hml:=qcU N (fun _=>inf) k
 repeat (first|refine qac ?_|(refine qaa ?_;clear hw;intro p w hw)|(refine qae ?_;clear hw;intro w hw)|(refine qab ?_;clear hw;intro s w hw))
 refine go_if (fun h1 => ?_) (fun h1 => ?_)
 ·have hkl:k<N:=by omega
  repeat (first|refine qac ?_|(refine qaa ?_;clear hw;intro p w hw)|(refine qae ?_;clear hw;intro w hw)|(refine qab ?_;clear hw;intro s w hw))
  rw [show (1125899906842624:Int)=(fun _:Nat=>inf) k from rfl,qgk] at hw
  exact⟨k+1,⟨rfl,trivial⟩,agr,⟨by omega,hw⟩,by omega⟩
 have hke:k=N:=by omega
 subst hke
 clear hml h1
 rw [qmE] at hw
 repeat (first|refine qac ?_|(refine qaa ?_;clear hw;intro p w hw)|(refine qad ?_;clear hw;intro w hw)|(refine qab ?_;clear hw;intro s w hw))
 obtain⟨lv,hlv⟩:∃ lv,lv=s:=⟨s,rfl⟩
 subst hlv
 have hlfl:=qcU U.length (fun i=>((un U (i:Int)).needs.length:Int)) 0
 have hw1:Sat w0 w [OS tInt 3 lv (fillL U.length (fun i=>((un U (i:Int)).needs.length:Int)) 0),OS tInt 3 ov (List.replicate k inf),Box p7 22 [ov]]:=by
  rw [Int.toNat_natCast,hul,←qfa U.length (fun i=>((un U (i:Int)).needs.length:Int))] at hw
  exact hw
 clear hw
 have hw:=hw1
 clear hw1
 refine qak [10,11,48,49,50,51,52,53,54,55,56,57,58,59] (G:=Nat) (fun j=>[(48,.int .i64 j)]) (fun j w=>j≤U.length∧Sat w0 w [OS tInt 3 lv (fillL U.length (fun i=>((un U (i:Int)).needs.length:Int)) j),OS tInt 3 ov (List.replicate k inf),Box p7 22 [ov]]) (fun j=>U.length-j) 0 (fun _=>rfl) ⟨rfl,trivial⟩ ⟨Nat.zero_le _,hw⟩ ?_
 clear hw hlfl
 rintro σ1 j w ⟨hj,hw⟩
 have hml:=qcU U.length (fun i=>((un U (i:Int)).needs.length:Int)) j
 repeat (first|refine qac ?_|(refine qaa ?_;clear hw;intro p w hw)|(refine qae ?_;clear hw;intro w hw)|(refine qab ?_;clear hw;intro s w hw))
 refine go_if (fun h1 => ?_) (fun h1 => ?_)
 ·have hjl:j<U.length:=by omega
  have hu:=hU j hjl
  have huo:=qmF hu
  have hun:=hu.needs
  repeat (first|refine qac ?_|(refine qaa ?_;clear hw;intro p w hw)|(refine qae ?_;clear hw;intro w hw)|(refine qab ?_;clear hw;intro s w hw))
  rw [show (((un U (j:Int)).needs.length:Nat):Int)=(fun i:Nat=>((un U (i:Int)).needs.length:Int)) j from rfl,qgk] at hw
  exact⟨j+1,⟨rfl,trivial⟩,agr,⟨by omega,hw.tail⟩,by omega⟩
 have hje:j=U.length:=by omega
 subst hje
 clear hml h1
 repeat (first|refine qac ?_|(refine qaa ?_;clear hw;intro p w hw)|(refine qad ?_;clear hw;intro w hw)|(refine qab ?_;clear hw;intro s w hw))
 obtain⟨p12,hp12⟩:∃ p12,p12=p:=⟨p,rfl⟩
 subst hp12
 obtain⟨lf,hlf⟩:∃ lf,lf=fillL U.length (fun i=>((un U (i:Int)).needs.length:Int)) U.length:=⟨_,rfl⟩
 have hlfl:lf.length=U.length:=by rw [hlf,qcU]
 have hlfa:∀ i:Nat,i<U.length→dg lf i=(un U i).needs.length:=fun i hi=>by
  rw [hlf];unfold dg;rw [Int.toNat_natCast,ql3 hi hi]
 have hw1:Sat w0 w (OS tItem 356 (.slice none 0 0) ([]:List Item)::Box p12 353 [(.slice none 0 0)]::OS tInt 3 ov (List.replicate k inf)::Box p7 22 [ov]::[OS tInt 3 lv lf]):=by
  have g1:Sat w0 w [Box p12 353 [.slice none 0 0],OS tInt 3 lv lf,OS tInt 3 ov (List.replicate k inf),Box p7 22 [ov]]:=by rw [hlf];exact hw
  exact (g1.nil (T:=tItem) (e:=356)).selG
 clear hw
 have hw:=hw1
 clear hw1
 obtain⟨S,hS⟩:∃ S,S=StF t.vars z:=⟨_,rfl⟩
 refine qak [14,15,63,64,65,66,67,68,69,70,71,72,73,74,75,76,77,78,79] (G:=Nat) (fun j=>[(63,.int .i64 j)]) (fun j w=>j≤z.length∧∃ qv Q D,RI0 U S k D Q∧IsHeap tItem.dflt ilt Q∧Q.length≤j∧(∀ v:Nat,v<j→dg D (firstV t.vars v+z.getD v tInt.dflt)≤0)∧Sat w0 w (OS tItem 356 qv Q::Box p12 353 [qv]::OS tInt 3 ov D::Box p7 22 [ov]::[OS tInt 3 lv lf])) (fun j=>z.length-j) 0 (fun _=>rfl) ⟨rfl,trivial⟩ ⟨Nat.zero_le _,_,_,_,RI0.init U S k,fun i h0 h1=>absurd h1 (Nat.not_lt_zero _),Nat.le_refl _,fun v hv=>absurd hv (Nat.not_lt_zero _),hw⟩ ?_
 clear hw
 rintro σ2 j w ⟨hj,qv,Q,D,hI,hQ,hQl,hst,hw⟩
 repeat (first|refine qac ?_|(refine qaa ?_;clear hw;intro p w hw)|(refine qae ?_;clear hw;intro w hw)|(refine qab ?_;clear hw;intro s w hw))
 refine go_if (fun h1 => ?_) (fun h1 => ?_)
 ·have hjl:j<z.length:=by omega
  have hjv:j<t.vars.length:=by omega
  obtain⟨g0,g1,g2⟩:=qnw hg.pos (fun i hi=>(hg.dom i hi).2) hvl hjv
  have hz:=hok.2 j hjl
  have hdm:=hg.dom j hjv
  have hbd:=qhM hg.pos hjv hz.1 hz.2
  have hfl:=qfQ t.vars t.vars.length
  repeat (first|refine qac ?_|(refine qaa ?_;clear hw;intro p w hw)|(refine qad ?_;clear hw;intro w hw)|(refine qab ?_;clear hw;intro s w hw))
  refine qbu (cs:=[.pointer (some p7),.pointer (some p12)]) rfl rfl (qcR hI.dl (by rw [g0,hfN];exact hbd) hQ (by omega) hw) ?_
  clear hw
  rintro _ w ⟨rfl,qv2,Q2,hQ2,hp2,hw⟩
  refine⟨_,rfl,?_⟩
  rw [g0] at hp2 hw
  have hbd2:0≤firstV t.vars j+z.getD j tInt.dflt∧firstV t.vars j+z.getD j tInt.dflt<(k:Int):=by rw [hfN];exact hbd
  have hI2:=(hI.rch hbd2 (Int.le_refl 0) (.start (by rw [hS];exact⟨j,hjv,rfl⟩))).perm hp2
  have hl2:=qfF D Q (firstV t.vars j+z.getD j tInt.dflt) 0
  have hl3:=hp2.length_eq
  repeat (first|refine qac ?_|(refine qaa ?_;clear hw;intro p w hw)|(refine qad ?_;clear hw;intro w hw)|(refine qab ?_;clear hw;intro s w hw))
  refine⟨j+1,⟨rfl,trivial⟩,agr,⟨by omega,qv2,Q2,_,hI2,hQ2,by omega,fun v hv => ?_,hw⟩,by omega⟩
  by_cases e:v=j
  ·rw [e];exact qkn hI.dl hbd2
  ·have hvv:v<t.vars.length:=by omega
   have h5:=hok.2 v (by omega)
   have h6:=qhM hg.pos hvv h5.1 h5.2
   exact Int.le_trans (qir hI.dl hbd2 h6.1) (hst v (by omega))
 have hje:j=z.length:=by omega
 rw [hje] at hst hQl
 clear hje h1 hj
 have hfrl:=qiD U
 have hst':∀ g,S g→0≤g∧g<(k:Int)∧dg D g≤0:=fun g hg'=>by
  rw [hS] at hg'
  obtain⟨v,hv,rfl⟩:=hg'
  have h5:=hok.2 v (by omega)
  have h6:=qhM hg.pos hv h5.1 h5.2
  rw [←hfN] at h6
  exact⟨h6.1,h6.2,hst v (by omega)⟩
 clear hst
 repeat (first|refine qac ?_|(refine qaa ?_;clear hw;intro p w hw)|(refine qad ?_;clear hw;intro w hw)|(refine qab ?_;clear hw;intro s w hw))
 refine qak [17,85,86,87,88,89,90,91,92,93,94,95,96,97,98,99,100,101,102,103,104,105,106,107,108,109,110,111,112,113,114,115,116,117,118] (G:=Nat) (fun j=>[(85,.int .i64 j)]) (fun j w=>j≤(freL U).length∧∃ qv Q D,RI0 U S k D Q∧IsHeap tItem.dflt ilt Q∧Q.length≤z.length+j∧(∀ g,S g→0≤g∧g<(k:Int)∧dg D g≤0)∧(∀ i:Nat,i<U.length→(i:Int)∈(freL U).take j→dg D (un U i).makes≤(un U i).cost)∧Sat w0 w (OS tItem 356 qv Q::Box p12 353 [qv]::OS tInt 3 ov D::Box p7 22 [ov]::[OS tInt 3 lv lf])) (fun j=>(freL U).length-j) 0 (fun _=>rfl) ⟨rfl,trivial⟩ ⟨Nat.zero_le _,qv,Q,D,hI,hQ,hQl,hst',fun i _ h=>by simp at h,hw⟩ ?_
 clear hw hI hQ hQl hst'
 clear qv Q D
 rintro σ3 j w ⟨hj,qv,Q,D,hI,hQ,hQl,hst,hfre,hw⟩
 repeat (first|refine qac ?_|(refine qaa ?_;clear hw;intro p w hw)|(refine qae ?_;clear hw;intro w hw)|(refine qab ?_;clear hw;intro s w hw))
 refine go_if (fun h1 => ?_) (fun h1 => ?_)
 ·have hjl:j<(freL U).length:=by omega
  obtain⟨i,hie,hil,hin⟩:=qiC.1 (qal tInt.dflt hjl)
  have hu:=hU i hil
  have huop:=hu.op
  have huco:=hu.cost
  have humk:=hu.makes
  have hib:((freL U).getD j tInt.dflt).toNat=i:=by rw [hie];rfl
  have hb0:0≤(freL U).getD j tInt.dflt∧(freL U).getD j tInt.dflt<(us.length:Int):=by rw [hie,hul];omega
  repeat (first|refine qac ?_|(refine qaa ?_;clear hw;intro p w hw)|(refine qad ?_;clear hw;intro w hw)|(refine qab ?_;clear hw;intro s w hw))
  refine qaE rfl (qdF (κ:=kInt) (q:=(eget tUn us ((freL U).getD j tInt.dflt).toNat).op) rfl rfl) ?_
  repeat (first|refine qac ?_|(refine qaa ?_;clear hw;intro p w hw)|(refine qad ?_;clear hw;intro w hw)|(refine qab ?_;clear hw;intro s w hw))
  refine qax [.op 0,.op 1,.op 2,.op 3,.op 4,.op 5,.op 6,.op 7,.op 8,.op 9,.op 10,.op 11,.op 12,.op 13,.op 14,.op 15,.op 16,.op 17] hw (by kernel_rfl) ?_;clear hw;intro w hw
  repeat (first|refine qac ?_|(refine qaa ?_;clear hw;intro p w hw)|(refine qad ?_;clear hw;intro w hw)|(refine qab ?_;clear hw;intro s w hw))
  have hmr:=hUok.makes i hil
  have hcr:=hUok.cost i hil
  refine qbu (cs:=[.pointer (some p7),.pointer (some p12)]) rfl rfl (qcR hI.dl (by rw [hib,humk];exact hmr) hQ (by omega) hw) ?_
  clear hw
  rintro _ w ⟨rfl,qv2,Q2,hQ2,hp2,hw⟩
  refine⟨_,rfl,?_⟩
  rw [hib,humk,huco] at hp2 hw
  have hder:Der U S (un U i).makes (un U i).cost:=by
   have h5:=Der.fire (U:=U) (S:=S) (v:=fun _=>0) (m:=0) hil (Int.le_refl 0) (fun n hn=>by rw [hin] at hn;simp at hn) (fun n hn=>by rw [hin] at hn;simp at hn)
   rwa [Int.add_zero] at h5
  have hI2:=(hI.rch hmr hcr.1 hder).perm hp2
  have hl2:=qfF D Q (un U i).makes (un U i).cost
  have hl3:=hp2.length_eq
  repeat (first|refine qac ?_|(refine qaa ?_;clear hw;intro p w hw)|(refine qad ?_;clear hw;intro w hw)|(refine qab ?_;clear hw;intro s w hw))
  refine⟨j+1,⟨rfl,trivial⟩,agr,⟨by omega,qv2,Q2,_,hI2,hQ2,by omega,fun g hg' => ?_,fun i' hi' hm => ?_,hw⟩,by omega⟩
  ·obtain⟨b1,b2,b3⟩:=hst g hg'
   exact⟨b1,b2,Int.le_trans (qir hI.dl hmr b1) b3⟩
  ·rw [qaj tInt.dflt hjl,hie] at hm
   rcases List.mem_append.1 hm with hm|hm
   ·exact Int.le_trans (qir hI.dl hmr (hUok.makes i' hi').1) (hfre i' hi' hm)
   ·have e:i'=i:=by have:=List.mem_singleton.1 hm;omega
    rw [e];exact qkn hI.dl hmr
 have hje:j=(freL U).length:=by omega
 rw [hje] at hQl hfre
 clear hje h1 hj
 rw [List.take_length] at hfre
 repeat (first|refine qac ?_|(refine qaa ?_;clear hw;intro p w hw)|(refine qad ?_;clear hw;intro w hw)|(refine qab ?_;clear hw;intro s w hw))
 obtain⟨dv,hdv⟩:∃ dv,dv=s:=⟨s,rfl⟩
 subst hdv
 have hR0:=hI.start hlfl hlfa (fun i hi=>(hUok.cost i hi).1) (fun i hi hn=>hfre i hi (qiC.2 ⟨i,rfl,hi,hn⟩))
 have hw1:Sat w0 w (OS tItem 356 qv Q::Box p12 353 [qv]::OS tInt 3 ov D::Box p7 22 [ov]::[OS tInt 3 lv lf,OS tBool 4 dv (dnL [] k)]):=by
  rw [Int.toNat_natCast,←qnJ] at hw
  exact hw.selG
 clear hw
 have hw:=hw1
 clear hw1
 refine qaq [19,20,22,124,125,126,127,128,129,130,131,132,133,134,135,136,137,138,139,140,141,142,143,144,145,146,147,148,149,150,151,152,153,154,155,156,157,158,159,160,161,162,163,164,165,166,167,168,169,170,171,172,173,174,175,176,177,178,179,180,181,182,183,184,185,186,187,188,189,190,191,192,193,194,195,196,197,198,199,200,201,202,203,204] (G:=List Int) (H:=List Item) (fun _ _=>[]) (fun dn Q w=>∃ qv D lf m f,RI U S k D lf dn Q m f (fun _=>True)∧IsHeap tItem.dflt ilt Q∧dn.Nodup∧Q.length≤z.length+U.length+dn.length*U.length∧(∀ g,S g→0≤g∧g<(k:Int)∧dg D g≤0)∧Sat w0 w (OS tItem 356 qv Q::Box p12 353 [qv]::OS tInt 3 ov D::Box p7 22 [ov]::[OS tInt 3 lv lf,OS tBool 4 dv (dnL dn k)])) (fun dn Q=>(k-dn.length)*(U.length+1)+Q.length) [] Q (fun _ _=>rfl) trivial ⟨qv,D,lf,0,0,hR0,hQ,List.nodup_nil,by simp;omega,hst,hw⟩ ?_
 clear hw hI hR0 hQ hQl hst hfre hlfa hlfl hlf
 clear qv Q D lf
 rintro σ4 dn Q w ⟨qv,D,lf,m,f,hI,hQ,hdn,hQl,hst,hw⟩
 have hdl:=qbL hdn fun g hg'=>(hI.set g hg').1
 have hmul:=Nat.mul_le_mul (show dn.length≤4096 by omega) hUl
 repeat (first|refine qac ?_|(refine qaa ?_;clear hw;intro p w hw)|(refine qad ?_;clear hw;intro w hw)|(refine qab ?_;clear hw;intro s w hw))
 refine qah rfl (qdB (rsO (s:=qv) hw)) ?_
 rintro _ w' ⟨rfl,hk'⟩
 replace hw:=hw.call0 hk'
 clear hk'
 refine⟨_,rfl,?_⟩
 repeat (first|refine qac ?_|(refine qaa ?_;clear hw;intro p w hw)|(refine qad ?_;clear hw;intro w hw)|(refine qab ?_;clear hw;intro s w hw))
 refine go_if (fun h1 => ?_) (fun h1 => ?_)
 ·have hql:0<Q.length:=by omega
  repeat (first|refine qac ?_|(refine qaa ?_;clear hw;intro p w hw)|(refine qad ?_;clear hw;intro w hw)|(refine qab ?_;clear hw;intro s w hw))
  refine qah rfl (qe8 hQ hql (by omega) hw) ?_
  clear hw
  rintro _ w ⟨x,qv2,ys,rfl,hys,hp,hmin,hw⟩
  refine⟨_,rfl,?_⟩
  have hpl:=hp.length_eq
  rw [List.length_cons] at hpl
  have hI1:=hI.perm hp.symm
  obtain⟨⟨x0,x1⟩,x2,x3,x4⟩:=hI1.ent x List.mem_cons_self
  have hdl2:=qnI dn k
  have hm0:=hI.m0
  have e3:inf=1125899906842624:=rfl
  repeat (first|refine qac ?_|(refine qaa ?_;clear hw;intro p w hw)|(refine qad ?_;clear hw;intro w hw)|(refine qab ?_;clear hw;intro s w hw))
  obtain⟨p19,hp19⟩:∃ p19,p19=p:=⟨p,rfl⟩
  subst hp19
  rw [qon x0 x1]
  by_cases hx:x.state∈dn
  ·have hd:decide (x.state∈dn)=true:=decide_eq_true hx
   simp only [hd]
   repeat (first|refine qac ?_|(refine qaa ?_;clear hw;intro p w hw)|(refine qad ?_;clear hw;intro w hw)|(refine qab ?_;clear hw;intro s w hw))
   exact⟨dn,ys,trivial,agr,⟨qv2,D,lf,m,f,hI1.skip hx,hys,hdn,by omega,hst,hw.tail⟩,by omega⟩
  have hd:decide (x.state∈dn)=false:=decide_eq_false hx
  simp only [hd]
  obtain⟨hT,hTd,_,hT0,hT1⟩:=hI1.take hUok hx (fun y hy=>by
   have h5:ilt y x=false:=hmin y (hp.mem_iff.2 (List.mem_cons_of_mem _ hy))
   exact Int.not_lt.1 (of_decide_eq_false h5))
  have hdn2:(x.state::dn).Nodup:=List.nodup_cons.2 ⟨hx,hdn⟩
  have hdl3:=qbL hdn2 fun g hg'=>(hT.set g hg').1
  rw [List.length_cons] at hdl3
  have hnl:=qiB U x.state
  have hrow:RS tInt w0 (vget ss x.state.toNat) (nedL U x.state):=by
   have h5:=hnd x.state.toNat (by omega)
   rwa [Int.toNat_of_nonneg x0] at h5
  repeat (first|refine qac ?_|(refine qaa ?_;clear hw;intro p w hw)|(refine qad ?_;clear hw;intro w hw)|(refine qab ?_;clear hw;intro s w hw))
  refine qbA ?_
  clear hw
  intro w hw
  rw [qnK x0 x1] at hw
  repeat (first|refine qac ?_|(refine qaa ?_;clear hw;intro p w hw)|(refine qad ?_;clear hw;intro w hw)|(refine qab ?_;clear hw;intro s w hw))
  have hw1:Sat w0 w (OS tItem 356 qv2 ys::Box p12 353 [qv2]::OS tInt 3 ov D::Box p7 22 [ov]::[OS tInt 3 lv lf,OS tBool 4 dv (dnL (x.state::dn) k),Box p19 356 [.int .i64 x.dist,.int .i64 x.state]]):=hw.selG
  clear hw
  have hw:=hw1
  clear hw1
  have hT2:=hT.okc (ok':=fun i=>x.state∉(un U i).needs∨(i:Int)∈(nedL U x.state).take 0) (fun i=>by simp)
  refine qak [22,155,156,157,158,159,160,161,162,163,164,165,166,167,168,169,170,171,172,173,174,175,176,177,178,179,180,181,182,183,184,185,186,187,188,189,190,191,192,193,194,195,196,197,198,199,200,201,202,203,204] (G:=Nat) (fun j=>[(155,.int .i64 j)]) (fun j w=>j≤(nedL U x.state).length∧∃ qv Q D lf,RI U S k D lf (x.state::dn) Q x.dist x.state (fun i=>x.state∉(un U i).needs∨(i:Int)∈(nedL U x.state).take j)∧IsHeap tItem.dflt ilt Q∧Q.length≤ys.length+j∧dg D x.state=x.dist∧(∀ g,S g→0≤g∧g<(k:Int)∧dg D g≤0)∧Sat w0 w (OS tItem 356 qv Q::Box p12 353 [qv]::OS tInt 3 ov D::Box p7 22 [ov]::[OS tInt 3 lv lf,OS tBool 4 dv (dnL (x.state::dn) k),Box p19 356 [.int .i64 x.dist,.int .i64 x.state]])) (fun j=>(nedL U x.state).length-j) 0 (fun _=>rfl) ⟨rfl,trivial⟩ ⟨Nat.zero_le _,qv2,ys,D,lf,hT2,hys,Nat.le_refl _,hTd,hst,hw⟩ ?_
  clear hw hI hI1 hT hT2 hQ hp hmin hTd hst x2 hys
  rintro σ5 j w ⟨hj,qv,Q5,D,lf,hI,hQ,hQ5,hDx,hst,hw⟩
  have hlfl:=hI.ll
  repeat (first|refine qac ?_|(refine qaa ?_;clear hw;intro p w hw)|(refine qae ?_;clear hw;intro w hw)|(refine qab ?_;clear hw;intro s w hw))
  refine go_if (fun h2 => ?_) (fun h2 => ?_)
  ·have hjl:j<(nedL U x.state).length:=by omega
   obtain⟨i,hie,hil,hin⟩:=qiy.1 (qal tInt.dflt hjl)
   have hu:=hU i hil
   have huop:=hu.op
   have huco:=hu.cost
   have humk:=hu.makes
   have hib:((nedL U x.state).getD j tInt.dflt).toNat=i:=by rw [hie];rfl
   have hb0:0≤(nedL U x.state).getD j tInt.dflt∧(nedL U x.state).getD j tInt.dflt<(us.length:Int):=by rw [hie,hul];omega
   have hb1:(nedL U x.state).getD j tInt.dflt<(lf.length:Int):=by rw [hlfl,←hul];exact hb0.2
   have hnot:¬(x.state∉(un U i).needs∨(i:Int)∈(nedL U x.state).take j):=by
    rintro (h5|h5)
    ·exact h5 hin
    ·obtain⟨i2,hi2,he2⟩:=List.getElem_of_mem h5
     rw [List.getElem_take] at he2
     rw [List.length_take] at hi2
     have h6:=List.pairwise_iff_getElem.1 (qjo U x.state) i2 j (by omega) hjl (by omega)
     rw [getD_at hjl] at hie
     exact h6 (by rw [he2,hie])
   obtain⟨hl1,hl2⟩:=hI.lft2 i hil hnot
   have hl3:=qot dn (un U i).needs
   have hl5:=qkK hx (hUok.nd i hil) hin
   have hl4:=hu.needs.big
   have hlv:lf.getD ((nedL U x.state).getD j tInt.dflt).toNat tInt.dflt=dg lf i:=by rw [hib];rfl
   have hlb:1≤dg lf i∧dg lf i≤9223372036854775807:=by omega
   have hset:(lf.set ((nedL U x.state).getD j tInt.dflt).toNat (lf.getD ((nedL U x.state).getD j tInt.dflt).toNat tInt.dflt-1))=lf.set i (dg lf i-1):=by rw [hib];rfl
   have hsl2:(lf.set ((nedL U x.state).getD j tInt.dflt).toNat (lf.getD ((nedL U x.state).getD j tInt.dflt).toNat tInt.dflt-1)).length=lf.length:=by simp
   have hget:(lf.set ((nedL U x.state).getD j tInt.dflt).toNat (lf.getD ((nedL U x.state).getD j tInt.dflt).toNat tInt.dflt-1)).getD ((nedL U x.state).getD j tInt.dflt).toNat tInt.dflt=dg lf i-1:=by
    rw [hset,hib]
    have:i<lf.length:=by omega
    simp [List.getD,this]
   have hok1:∀ i':Nat,(x.state∉(un U i').needs∨(i':Int)∈(nedL U x.state).take j)∨i'=i↔x.state∉(un U i').needs∨(i':Int)∈(nedL U x.state).take (j+1):=fun i'=>by
    rw [qaj tInt.dflt hjl,hie]
    simp only [List.mem_append,List.mem_singleton]
    constructor
    ·rintro ((h|h)|h)
     ·exact .inl h
     ·exact .inr (.inl h)
     ·exact .inr (.inr (by rw [h]))
    ·rintro (h|h|h)
     ·exact .inl (.inl h)
     ·exact .inl (.inr h)
     ·exact .inr (by omega)
   repeat (first|refine qac ?_|(refine qaa ?_;clear hw;intro p w hw)|(refine qad ?_;clear hw;intro w hw)|(refine qab ?_;clear hw;intro s w hw))
   rw [hget]
   rw [hset] at hw
   by_cases hz0:dg lf i-1=0
   ·have hd0:decide (dg lf i-1=0)=true:=decide_eq_true hz0
    simp only [hd0,beq_self_eq_true,qaX,qaY,Bool.false_and,Bool.true_and,Bool.not_true,Bool.not_false,Bool.cond_true,Bool.cond_false,gv_fI,gv_tI]
    repeat (first|refine qac ?_|(refine qaa ?_;clear hw;intro p w hw)|(refine qad ?_;clear hw;intro w hw)|(refine qab ?_;clear hw;intro s w hw))
    refine qaE rfl (qdF (κ:=kInt) (q:=(eget tUn us ((nedL U x.state).getD j tInt.dflt).toNat).op) rfl rfl) ?_
    repeat (first|refine qac ?_|(refine qaa ?_;clear hw;intro p w hw)|(refine qad ?_;clear hw;intro w hw)|(refine qab ?_;clear hw;intro s w hw))
    have hmr:=hUok.makes i hil
    have hcr:=hUok.cost i hil
    have hcu:(eget tUn us ((nedL U x.state).getD j tInt.dflt).toNat).cost=(un U i).cost:=by rw [hib];exact huco
    have hmu:(eget tUn us ((nedL U x.state).getD j tInt.dflt).toNat).makes=(un U i).makes:=by rw [hib];exact humk
    refine qax [.op 0,.op 1,.op 2,.op 3,.op 4,.op 5,.op 6,.op 7,.op 8,.op 9,.op 10,.op 11,.op 12,.op 13,.op 14,.op 15,.op 16,.op 17,.op 18,.op 19,.op 20] hw (by kernel_rfl) ?_;clear hw;intro w hw
    repeat (first|refine qac ?_|(refine qaa ?_;clear hw;intro p w hw)|(refine qad ?_;clear hw;intro w hw)|(refine qab ?_;clear hw;intro s w hw))
    refine qbu (cs:=[.pointer (some p7),.pointer (some p12)]) rfl rfl (qcR hI.dl (by rw [hmu];exact hmr) hQ (by omega) hw) ?_
    clear hw
    rintro _ w ⟨rfl,qv6,Q6,hQ6,hp6,hw⟩
    refine⟨_,rfl,?_⟩
    rw [hmu,hcu] at hp6 hw
    have hfd:=hI.fired hil hnot hz0 (hUok.needs i hil)
    have hI2:=(hI.rch (v:=x.dist+(un U i).cost) hmr (by omega) hfd).perm hp6
    have hat:=qkn (v:=x.dist+(un U i).cost) hI.dl hmr
    have hke2:=qme (v:=x.dist+(un U i).cost) hI.dl hmr x0 hDx (by omega)
    have hl7:=qfF D Q5 (un U i).makes (x.dist+(un U i).cost)
    have hl8:=hp6.length_eq
    have hI3:=(hI2.count hil hnot (.inr hat) hke2).okc hok1
    repeat (first|refine qac ?_|(refine qaa ?_;clear hw;intro p w hw)|(refine qad ?_;clear hw;intro w hw)|(refine qab ?_;clear hw;intro s w hw))
    refine⟨j+1,⟨rfl,trivial⟩,agr,⟨by omega,qv6,Q6,_,_,hI3,hQ6,by omega,hke2,fun g hg' => ?_,hw⟩,by omega⟩
    obtain⟨b1,b2,b3⟩:=hst g hg'
    exact⟨b1,b2,Int.le_trans (qir hI.dl hmr b1) b3⟩
   ·have hd0:decide (dg lf i-1=0)=false:=decide_eq_false hz0
    simp only [hd0,beq_self_eq_true,qaX,qaY,Bool.false_and,Bool.true_and,Bool.not_true,Bool.not_false,Bool.cond_true,Bool.cond_false,gv_fI,gv_tI]
    repeat (first|refine qac ?_|(refine qaa ?_;clear hw;intro p w hw)|(refine qad ?_;clear hw;intro w hw)|(refine qab ?_;clear hw;intro s w hw))
    have hI3:=(hI.count hil hnot (.inl hz0) hDx).okc hok1
    exact⟨j+1,⟨rfl,trivial⟩,agr,⟨by omega,qv,Q5,D,_,hI3,hQ,by omega,hDx,hst,hw⟩,by omega⟩
  have hje:j=(nedL U x.state).length:=by omega
  rw [hje] at hI hQ5
  rw [List.take_length] at hI
  have hI2:=hI.okc (ok':=fun _=>True) (fun i=>⟨fun _=>trivial,fun _=>by
   by_cases h5:x.state∈(un U i).needs
   ·by_cases h6:i<U.length
    ·exact .inr (qiy.2 ⟨i,rfl,h6,h5⟩)
    ·have h7:un U i=dUn:=by unfold un;simp [List.getD,Nat.le_of_not_lt h6]
     rw [h7] at h5;simp [dUn] at h5
   ·exact .inl h5⟩)
  repeat (first|refine qac ?_|(refine qaa ?_;clear hw;intro p w hw)|(refine qad ?_;clear hw;intro w hw)|(refine qab ?_;clear hw;intro s w hw))
  have hmm:=Nat.succ_mul (k-(dn.length+1)) (U.length+1)
  rw [show (k-(dn.length+1)).succ=k-dn.length by omega] at hmm
  refine⟨x.state::dn,Q5,trivial,agr,⟨qv,D,lf,x.dist,x.state,hI2,hQ,hdn2,?_,hst,hw.selG⟩,?_⟩
  ·rw [List.length_cons,Nat.succ_mul];omega
  ·rw [List.length_cons];omega
 have hQ0:Q=[]:=List.eq_nil_of_length_eq_zero (by omega)
 rw [hQ0] at hI
 repeat (first|refine qac ?_|(refine qaa ?_;clear hw;intro p w hw)|(refine qad ?_;clear hw;intro w hw)|(refine qab ?_;clear hw;intro s w hw))
 refine qai (v:=ov) rfl rfl ⟨ov,D,rfl,⟨by rw [hI.dl,hNe],by rw [←hNe];exact hI.rng,?_,?_⟩,hw.sel⟩
 ·rw [←hNe,←hUe,←hS];exact hI.der
 ·rw [←hNe,←hUe,←hS]
  exact hI.fin hUok hst
end Go.Proofs.YtjdlohdcdmhigaaGreatDoor
