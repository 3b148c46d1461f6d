/-
  Contract of transys.shortest (against the edges).
-/
import Derived.Test.YtjdlohdcdmhigaaGreatDoorWVal
import Derived.Test.YtjdlohdcdmhigaaGreatDoorWMs5
import Derived.Test.YtjdlohdcdmhigaaGreatDoorMTA
set_option linter.unusedSimpArgs false
set_option linter.unusedVariables false
namespace Go.Proofs.YtjdlohdcdmhigaaGreatDoor
open Go.Sl Go
attribute [local irreducible] vc opsW opsD opV opW PureV ReadV Thn Blk
theorem qn3 {S:SysV}{k:Nat}(hk:k<S.edges.length):(S.edges.map (arcE S true)).getD k tMArc.dflt=⟨(S.edges.getD k tEdg.dflt).dst,(S.edges.getD k tEdg.dflt).src,S.costs.getD (S.edges.getD k tEdg.dflt).lab.toNat tInt.dflt⟩:=by
 simp [List.getD,hk,arcE]
theorem qlb {S:SysV}(hv:ValS S):ArcsOk S.st.toNat (arcsS S true) where
 ok l hl a ha:=by
  obtain⟨x,hx,rfl⟩:=List.getElem_of_mem hl
  have hx':x<S.st.toNat:=by simpa [arcsS,grpL] using hx
  have h1:(arcsS S true)[x]=(arcsS S true).getD x []:=by rw [List.getD_eq_getElem?_getD,List.getElem?_eq_getElem hx];rfl
  rw [h1] at ha
  have h2:=((qem (g:=fun a:MArc=>a.src) (l:=S.edges.map (arcE S true)) hx').1 ha).1
  obtain⟨e,he,rfl⟩:=List.mem_map.1 h2
  obtain⟨_,_,_,_,_,_,_,hc,hE,_⟩:=hv
  obtain⟨⟨s0,s1⟩,⟨d0,d1⟩,l0,l1⟩:=hE e he
  have:=hc _ (qal tInt.dflt (show e.lab.toNat<S.costs.length by omega))
  show ArcOk S.st.toNat ⟨e.dst,e.src,S.costs.getD e.lab.toNat tInt.dflt⟩
  exact⟨d0,(by show e.dst<_;omega),s0,(by show e.src<_;omega),this.1,this.2⟩
 src i hi a ha:=by
  have hi':i<S.st.toNat:=by simpa [arcsS,grpL] using hi
  exact ((qem (g:=fun a:MArc=>a.src) (l:=S.edges.map (arcE S true)) hi').1 ha).2
 len:=qbW
set_option maxRecDepth 8000 in
set_option maxHeartbeats 8000000 in
theorem qm6 {w0:World}{cv ev gv fv:Value}{S:SysV}{fr:List Int}(hS:RSys w0 cv ev gv S) (hv:ValS S) (hf:RS tInt w0 fv fr) (hfn:fr.Nodup) (hfb:∀ i∈fr,0≤i∧i<(S.st.toNat:Int)) :
  Calls Tryz.prog 87 #[sysV S cv ev gv,fv,.bool true] w0 fun e w'=>∃ v,e=.returned v∧Sat w0 w' [OS tInt 3 v (spL S fr true)]:=by
 have hcv:=hS.costs
 have hev:=hS.edges
 have hgv:=hS.goals
 have hAo:=qlb hv
 obtain⟨a1,a2,a3,a4,a5,a6,a7,hco,hed,_⟩:=hv
 obtain⟨n,hn⟩:∃ n,n=S.st.toNat:=⟨_,rfl⟩
 have hnS:S.st=(n:Int):=by omega
 have hfl:fr.length≤n:=by rw [hn];exact qen hfn hfb
 rw [←hn] at hAo hfb
 have hw:=Sat.start w0
 refine qaf (args:=[sysV S cv ev gv,fv,.bool true]) mixed Tryz.func87 rfl (by kernel_rfl) (Nat.le_of_ble_eq_true rfl) ?_
 unfold sysV
 rw [hnS]
 repeat (first|refine qac ?_|(refine qaa ?_;clear hw;intro p w hw)|(refine qae ?_;clear hw;intro w hw)|(refine qab ?_;clear hw;intro s w hw))
 have hw:=hw.rowsNil (T:=tMArc) (e:=205) n
 obtain⟨ps,hps⟩:∃ q,q=p:=⟨p,rfl⟩
 subst hps
 obtain⟨av,hav⟩:∃ q,q=s:=⟨s,rfl⟩
 subst hav
 have hw:Sat w0 w [RowsAt tMArc 205 (List.replicate n (.slice none 0 0)) (List.replicate n []),OS tVal 206 av (List.replicate n (.slice none 0 0)),Box ps 96 [.int .i64 n,.int .i64 S.ini,cv,ev,gv]]:=hw
 obtain⟨L,hL⟩:∃ L,L=S.edges.map (arcE S true):=⟨_,rfl⟩
 have hLl:L.length=S.edges.length:=by rw [hL,List.length_map]
 rw [←qfO (g:=fun a:MArc=>a.src)] at hw
 refine qaq [9,10,26,27,28,29,30,31,32,33,34,35,36,37,38,39,40,41,42,43,44,45,46,47,48,49,50,51,52,53,54,55,56,57,58,59,60] (G:=Nat) (H:=List Value) (fun k ss=>[(26,.int .i64 k)]) (fun k ss w=>k≤S.edges.length∧ss.length=n∧Sat w0 w [RowsAt tMArc 205 ss (grpL (fun a:MArc=>a.src) n (L.take k)),OS tVal 206 av ss,Box ps 96 [.int .i64 n,.int .i64 S.ini,cv,ev,gv]]) (fun k ss=>S.edges.length-k) 0 (List.replicate n (.slice none 0 0)) (fun _ _=>rfl) ⟨rfl,trivial⟩ ⟨Nat.zero_le _,by simp,by rw [List.take_zero];exact hw⟩ ?_
 ·clear hw
  rintro σ k ss w ⟨hk,hss,hw⟩
  repeat (first|refine qac ?_|(refine qaa ?_;clear hw;intro p w hw)|(refine qae ?_;clear hw;intro w hw)|(refine qab ?_;clear hw;intro s w hw))
  refine go_if (fun h2 => ?_) (fun h2 => ?_)
  ·have hkl:k<S.edges.length:=by omega
   have hae:=qn3 hkl
   rw [←hL] at hae
   obtain⟨a,ha⟩:∃ a,a=S.edges.getD k tEdg.dflt:=⟨_,rfl⟩
   have hm:=hed _ (qal tEdg.dflt hkl)
   rw [←ha] at hm hae
   obtain⟨c,hc⟩:∃ c,c=S.costs.getD a.lab.toNat tInt.dflt:=⟨_,rfl⟩
   rw [←hc] at hae
   obtain⟨⟨m1,m2⟩,⟨m3,m4⟩,m5,m6⟩:=hm
   have hgs:=qfP (g:=fun a:MArc=>a.src) (n:=n) (dflt:=tMArc.dflt) (l:=L) (k:=k) (by omega) (by rw [hae];exact m3) (by rw [hae];simp only;omega)
   have hgl:=qbW (g:=fun a:MArc=>a.src) (n:=n) (l:=L.take k)
   have hrl:=qcz (g:=fun a:MArc=>a.src) (n:=n) (l:=L.take k) (x:=a.dst.toNat)
   rw [List.length_take] at hrl
   rw [hae] at hgs
   repeat (first|refine qac ?_|(refine qaa ?_;clear hw;intro p w hw)|(refine qad ?_;clear hw;intro w hw)|(refine qab ?_;clear hw;intro s w hw))
   obtain⟨pe,hpe⟩:∃ q,q=p:=⟨p,rfl⟩
   subst hpe
   have hw:Sat w0 w [Box pe 196 [.int .i64 a.src,.int .i64 a.lab,.int .i64 a.dst],RowsAt tMArc 205 ss (grpL (fun a:MArc=>a.src) n (L.take k)),OS tVal 206 av ss,Box ps 96 [.int .i64 n,.int .i64 S.ini,cv,ev,gv]]:=by rw [ha];exact hw
   refine qdh [10,30,31,32,33,34,35,36,37,38,39,40] (G:=Addr) (fun x=>[(10,.pointer (some x))]) (fun x w=>Sat w0 w [Box x 205 [.int .i64 a.src,.int .i64 a.dst,.int .i64 c],Box pe 196 [.int .i64 a.src,.int .i64 a.lab,.int .i64 a.dst],RowsAt tMArc 205 ss (grpL (fun a:MArc=>a.src) n (L.take k)),OS tVal 206 av ss,Box ps 96 [.int .i64 n,.int .i64 S.ini,cv,ev,gv]]) (fun _=>rfl) ?_ ?_
   ·refine qeK (.step 0 [.op 0] (.step 2 [.op 2] (.step 4 [.op 4] (.step 6 [.op 6] (.step 1 [.op 1] (.step 3 [.op 3] (.step 5 [.op 5] (.step 7 [.op 7] (.step 8 [.op 8] (.step 9 [.op 9] (.alt 10 [.op 10] (.step 11 [.op 11,.chk 1,.chk 3,.chk 5,.chk 7,.chk 9] (.step 12 [.op 12] (.lin []))) (.alt 11 [.op 11,.chk 1,.chk 3,.chk 5,.chk 7,.chk 9] (.step 10 [.op 10] (.step 12 [.op 12] (.lin []))) (.stop))))))))))))) hw (by kernel_rfl) (by kernel_rfl) ?_;clear hw;intro w hw
    repeat (first|refine qac ?_|(refine qaa ?_;clear hw;intro p w hw)|(refine qad ?_;clear hw;intro w hw)|(refine qab ?_;clear hw;intro s w hw))
    refine qav ?_ (qav ?_ qaG)
    ·repeat (first|refine qac ?_|(refine qaa ?_;clear hw;intro p w hw)|(refine qad ?_;clear hw;intro w hw)|(refine qab ?_;clear hw;intro s w hw))
     rw [←hc] at hw
     exact⟨_,⟨rfl,trivial⟩,agr,hw⟩
    ·repeat (first|refine qac ?_|(refine qaa ?_;clear hw;intro p w hw)|(refine qad ?_;clear hw;intro w hw)|(refine qab ?_;clear hw;intro s w hw))
     rw [←hc] at hw
     exact⟨_,⟨rfl,trivial⟩,agr,hw⟩
   clear hw
   rintro σ x w hw
   repeat (first|refine qac ?_|(refine qaa ?_;clear hw;intro p w hw)|(refine qad ?_;clear hw;intro w hw)|(refine qab ?_;clear hw;intro s w hw))
   have hw:Sat w0 w [Box x 205 [.int .i64 a.dst,.int .i64 a.src,.int .i64 c],RowsAt tMArc 205 ss (grpL (fun a:MArc=>a.src) n (L.take k)),OS tVal 206 av ss,Box ps 96 [.int .i64 n,.int .i64 S.ini,cv,ev,gv]]:=by
    simp only [List.set_cons_succ,List.set_cons_zero] at hw
    exact hw.sel
   have hi:a.dst.toNat<(grpL (fun a:MArc=>a.src) n (L.take k)).length:=by omega
   replace hw:=hw.swap.rowOut hi
   refine qax [.op 0,.op 1,.op 2,.op 3,.op 4,.op 5,.op 6,.op 7,.op 8,.op 9,.chk 2,.chk 5,.chk 7,.op 10,.chk 2,.op 11,.op 12] hw (by kernel_rfl) ?_;clear hw;intro w hw
   repeat (first|refine qac ?_|(refine qaa ?_;clear hw;intro p w hw)|(refine qae ?_;clear hw;intro w hw)|(refine qab ?_;clear hw;intro s w hw))
   refine qam tMArc (x1:=⟨a.dst,a.src,c⟩) rfl rfl rfl (Nat.le_of_ble_eq_true rfl) (Nat.zero_lt_succ _) hw ?_
   clear hw;intro s2 w hw
   repeat (first|refine qac ?_|(refine qaa ?_;clear hw;intro p w hw)|(refine qae ?_;clear hw;intro w hw)|(refine qab ?_;clear hw;intro s w hw))
   replace hw:=Sat.rowIn hi (by omega) hw.tail
   replace hw:=hw.swap.tail
   rw [←hgs] at hw
   exact⟨k+1,ss.set a.dst.toNat s,⟨rfl,trivial⟩,agr,⟨by omega,by rw [List.length_set];exact hss,hw⟩,by omega⟩
  rw [List.take_of_length_le (by omega)] at hw
  have hL2:grpL (fun a:MArc=>a.src) n L=arcsS S true:=by rw [hL,hn];rfl
  rw [hL2] at hw
  clear hL2
  obtain⟨A,hA⟩:∃ A,A=arcsS S true:=⟨_,rfl⟩
  rw [←hA] at hw hAo
  repeat (first|refine qac ?_|(refine qaa ?_;clear hw;intro p w hw)|(refine qae ?_;clear hw;intro w hw)|(refine qab ?_;clear hw;intro s w hw))
  obtain⟨ov,hov⟩:∃ q,q=s:=⟨s,rfl⟩
  subst hov
  have hw:Sat w0 w [OS tInt 3 ov (List.replicate n 0),RowsAt tMArc 205 ss A,OS tVal 206 av ss,Box ps 96 [.int .i64 n,.int .i64 S.ini,cv,ev,gv]]:=hw
  have hrl:(List.replicate ((n:Int)).toNat (0:Int)).length=n:=by simp
  refine qak [12,66,67,68,69,70,71,72] (G:=Nat) (fun k=>[(66,.int .i64 k)]) (fun k w=>k≤n∧Sat w0 w [OS tInt 3 ov (List.replicate k 1125899906842624++List.replicate (n-k) 0),RowsAt tMArc 205 ss A,OS tVal 206 av ss,Box ps 96 [.int .i64 n,.int .i64 S.ini,cv,ev,gv]]) (fun k=>n-k) 0 (fun _=>rfl) ⟨rfl,trivial⟩ ⟨Nat.zero_le _,hw⟩ ?_
  clear hw
  rintro σ k w ⟨hk,hw⟩
  have hln:(List.replicate k (1125899906842624:Int)++List.replicate (n-k) 0).length=n:=by rw [List.length_append,List.length_replicate,List.length_replicate];omega
  repeat (first|refine qac ?_|(refine qaa ?_;clear hw;intro p w hw)|(refine qae ?_;clear hw;intro w hw)|(refine qab ?_;clear hw;intro s w hw))
  refine go_if (fun h3 => ?_) (fun h3 => ?_)
  ·repeat (first|refine qac ?_|(refine qaa ?_;clear hw;intro p w hw)|(refine qae ?_;clear hw;intro w hw)|(refine qab ?_;clear hw;intro s w hw))
   refine⟨k+1,⟨rfl,trivial⟩,agr,⟨by omega,?_⟩,by omega⟩
   have e:(List.replicate k (1125899906842624:Int)++List.replicate (n-k) 0).set k 1125899906842624=List.replicate (k+1) 1125899906842624++List.replicate (n-(k+1)) 0:=by
    have hr:n-k=(n-(k+1))+1:=by omega
    rw [hr,List.replicate_succ,List.set_append_right _ _ (by rw [List.length_replicate];exact Nat.le_refl _),List.length_replicate,Nat.sub_self,List.set_cons_zero,List.replicate_succ',List.append_assoc]
    rfl
   rw [e] at hw
   exact hw.sel
  have hkn:n=k:=by omega
  subst hkn
  rw [Nat.sub_self,List.replicate_zero,List.append_nil] at hw
  repeat (first|refine qac ?_|(refine qaa ?_;clear hw;intro p w hw)|(refine qae ?_;clear hw;intro w hw)|(refine qab ?_;clear hw;intro s w hw))
  obtain⟨wv,hwv⟩:∃ q,q=s:=⟨s,rfl⟩
  subst hwv
  refine qah rfl (qaB (hf.at hw) (by omega)) ?_
  rintro _ w' ⟨qv,rfl,hk'⟩;replace hw:=hw.call1 hk';clear hk';refine⟨_,rfl,?_⟩
  repeat (first|refine qac ?_|(refine qaa ?_;clear hw;intro p w hw)|(refine qae ?_;clear hw;intro w hw)|(refine qab ?_;clear hw;intro s w hw))
  rw [show ((n:Int)).toNat=n from by omega] at hw
  have hw:Sat w0 w' [OS tInt 3 qv fr,OS tBool 4 wv (List.replicate n false),OS tInt 3 ov (List.replicate n 1125899906842624),RowsAt tMArc 205 ss A,OS tVal 206 av ss]:=hw.sel
  refine qak [16,80,81,82,83,84,85,86,87,88,89,90] (G:=Nat) (fun k=>[(80,.int .i64 k)]) (fun k w=>k≤fr.length∧Sat w0 w [OS tInt 3 qv fr,OS tBool 4 wv ((fr.take k).foldl (fun o i=>o.set i.toNat true) (List.replicate n false)),OS tInt 3 ov ((fr.take k).foldl (fun o i=>o.set i.toNat 0) (List.replicate n 1125899906842624)),RowsAt tMArc 205 ss A,OS tVal 206 av ss]) (fun k=>fr.length-k) 0 (fun _=>rfl) ⟨rfl,trivial⟩ ⟨Nat.zero_le _,hw⟩ ?_
  clear hw
  rintro σ k w ⟨hk,hw⟩
  have l1:((fr.take k).foldl (fun o i=>o.set i.toNat true) (List.replicate n false)).length=n:=by rw [qbX,List.length_replicate]
  have l2:((fr.take k).foldl (fun o i=>o.set i.toNat (0:Int)) (List.replicate n 1125899906842624)).length=n:=by rw [qbX,List.length_replicate]
  repeat (first|refine qac ?_|(refine qaa ?_;clear hw;intro p w hw)|(refine qae ?_;clear hw;intro w hw)|(refine qab ?_;clear hw;intro s w hw))
  refine go_if (fun h4 => ?_) (fun h4 => ?_)
  ·have hkl:k<fr.length:=by omega
   have hb:=hfb _ (qal tInt.dflt hkl)
   repeat (first|refine qac ?_|(refine qaa ?_;clear hw;intro p w hw)|(refine qae ?_;clear hw;intro w hw)|(refine qab ?_;clear hw;intro s w hw))
   refine⟨k+1,⟨rfl,trivial⟩,agr,⟨by omega,?_⟩,by omega⟩
   rw [qaj tInt.dflt hkl,List.foldl_append,List.foldl_append]
   exact hw
  rw [List.take_of_length_le (by omega)] at hw
  have hbeg:=qiE hfn hfb
  have hw:Sat w0 w [OS tInt 3 qv (spBeg n fr).q,OS tBool 4 wv (spBeg n fr).waits,OS tInt 3 ov (spBeg n fr).out,RowsAt tMArc 205 ss A,OS tVal 206 av ss]:=hw
  repeat (first|refine qac ?_|(refine qaa ?_;clear hw;intro p w hw)|(refine qae ?_;clear hw;intro w hw)|(refine qab ?_;clear hw;intro s w hw))
  refine qaq [14,17,19,91,92,93,94,95,96,97,98,99,100,101,102,103,104,105,106,107,108,109,110,111,112,113,114,115,116,117,118,119,120,121,122,123,124,125,126,127,128,129,130,131,132,133,134,135,136,137,138,139,140,141,142,143,144,145,146,147,148,149,150] (G:=Nat) (H:=Value) (fun j qv=>[(14,qv)]) (fun j qv w=>∃ X,X=itr (spStep A) j (spBeg n fr)∧SpOk n X∧Sat w0 w [OS tInt 3 qv X.q,OS tBool 4 wv X.waits,OS tInt 3 ov X.out,RowsAt tMArc 205 ss A,OS tVal 206 av ss]) (fun j qv=>spM (itr (spStep A) j (spBeg n fr))) 0 qv (fun _ _=>rfl) ⟨rfl,trivial⟩ ⟨_,rfl,hbeg,hw⟩ ?_
  clear hw
  rintro σ j qv w ⟨X,hX,hok,hw⟩
  have hql:=hok.ql
  have hol:=hok.ol
  have hwl:=hok.wl
  have hAl:=hAo.len
  repeat (first|refine qac ?_|(refine qaa ?_;clear hw;intro p w hw)|(refine qae ?_;clear hw;intro w hw)|(refine qab ?_;clear hw;intro s w hw))
  refine go_if (fun h5 => ?_) (fun h5 => ?_)
  ·obtain⟨i,r,hq⟩:∃ i r,X.q=i::r:=by
    cases hq:X.q with
    | nil=>rw [hq] at h5;simp at h5
    | cons i r=>exact⟨i,r,rfl⟩
   obtain⟨hp1,hp2,hi0,hi1⟩:=hok.pop hq
   have hrl:X.q.length=r.length+1:=by rw [hq];rfl
   have hg0:X.q.getD (Int.toNat 0) tInt.dflt=i:=by rw [hq];rfl
   repeat (first|refine qac ?_|(refine qaa ?_;clear hw;intro p w hw)|(refine qad ?_;clear hw;intro w hw)|(refine qab ?_;clear hw;intro s w hw))
   rw [hg0]
   repeat (first|refine qac ?_|(refine qaa ?_;clear hw;intro p w hw)|(refine qad ?_;clear hw;intro w hw)|(refine qab ?_;clear hw;intro s w hw))
   rw [hg0] at hw
   have hw:=hw.sub (s:=qv) own_here 1 X.q.length (by omega) (Nat.le_refl _)
   have hcr:cut X.q 1 X.q.length=r:=by rw [hq];simp [cut]
   rw [hcr] at hw
   obtain⟨q2,hq2⟩:∃ q2,q2=ssub qv tInt.sz (Int.toNat 1) X.q.length:=⟨_,rfl⟩
   have hw:Sat w0 w [OS tInt 3 q2 r,OS tBool 4 wv (X.waits.set i.toNat false),OS tInt 3 ov X.out,RowsAt tMArc 205 ss A,OS tVal 206 av ss]:=by rw [hq2];exact hw
   rw [←hq2]
   obtain⟨AR,hAR⟩:∃ AR,AR=A.getD i.toNat []:=⟨_,rfl⟩
   have hARok:∀ a∈AR,ArcOk n a:=fun a ha=>hAo.ok _ (qdV (i:=i.toNat) (by omega)) a (by rw [←hAR];exact ha)
   have hARl:AR.length≤S.edges.length:=by
    rw [hAR,hA]
    exact Nat.le_trans qcz (by rw [List.length_map];exact Nat.le_refl _)
   have hstep:spStep A X=AR.foldl (spRel i) ⟨X.out,X.waits.set i.toNat false,r⟩:=by unfold spStep;rw [hq,hAR]
   have hrow:=(hw.focus 3 rfl).row (i:=i.toNat) (by omega)
   rw [←hAR] at hrow
   repeat (first|refine qac ?_|(refine qaa ?_;clear hw;intro p w hw)|(refine qad ?_;clear hw;intro w hw)|(refine qab ?_;clear hw;intro s w hw))
   refine qaq [14,19,107,108,109,110,111,112,113,114,115,116,117,118,119,120,121,122,123,124,125,126,127,128,129,130,131,132,133,134,135,136,137,138,139,140,141,142,143,144,145,146,147,148,149,150] (G:=Nat) (H:=Value) (fun k q'=>[(107,.int .i64 k),(14,q')]) (fun k q' w=>k≤AR.length∧Sat w0 w [OS tInt 3 q' ((AR.take k).foldl (spRel i) ⟨X.out,X.waits.set i.toNat false,r⟩).q,OS tBool 4 wv ((AR.take k).foldl (spRel i) ⟨X.out,X.waits.set i.toNat false,r⟩).waits,OS tInt 3 ov ((AR.take k).foldl (spRel i) ⟨X.out,X.waits.set i.toNat false,r⟩).out,RowsAt tMArc 205 ss A,OS tVal 206 av ss]) (fun k _=>AR.length-k) 0 q2 (fun _ _=>rfl) ⟨rfl,rfl,trivial⟩ ⟨Nat.zero_le _,hw⟩ ?_
   clear hw hrow
   rintro σ k q' w ⟨hk,hw⟩
   have hY:=(hp1.rels (L:=AR.take k) ⟨hi0,hi1⟩ (fun a ha=>hARok a (List.mem_of_mem_take ha))).1
   obtain⟨Y,hYe⟩:∃ Y,Y=(AR.take k).foldl (spRel i) ⟨X.out,X.waits.set i.toNat false,r⟩:=⟨_,rfl⟩
   rw [←hYe] at hw hY
   have y1:=hY.ol
   have y2:=hY.wl
   have y3:=hY.ql
   have y4:=hY.ob i.toNat (by omega)
   have hrow:=(hw.focus 3 rfl).row (i:=i.toNat) (by omega)
   rw [←hAR] at hrow
   repeat (first|refine qac ?_|(refine qaa ?_;clear hw;intro p w hw)|(refine qad ?_;clear hw;intro w hw)|(refine qab ?_;clear hw;intro s w hw))
   refine go_if (fun h6 => ?_) (fun h6 => ?_)
   ·have hkl:k<AR.length:=by omega
    have ha:=hARok _ (qal tMArc.dflt hkl)
    obtain⟨a,hae⟩:∃ a,a=AR.getD k tMArc.dflt:=⟨_,rfl⟩
    rw [←hae] at ha
    obtain⟨b1,b2,b3,b4,b5,b6⟩:=ha
    have y5:=hY.ob a.dst.toNat (by omega)
    have hnext:(AR.take (k+1)).foldl (spRel i) ⟨X.out,X.waits.set i.toNat false,r⟩=spRel i Y a:=by rw [qaj tMArc.dflt hkl,List.foldl_append,←hYe,←hae];rfl
    repeat (first|refine qac ?_|(refine qaa ?_;clear hw;intro p w hw)|(refine qad ?_;clear hw;intro w hw)|(refine qab ?_;clear hw;intro s w hw))
    have hw:Sat w0 w [Box p 205 [.int .i64 a.src,.int .i64 a.dst,.int .i64 a.wt],OS tInt 3 q' Y.q,OS tBool 4 wv Y.waits,OS tInt 3 ov Y.out,RowsAt tMArc 205 ss A,OS tVal 206 av ss]:=by rw [hae];exact hw
    refine qbA ?_;clear hw hrow;intro w hw
    repeat (first|refine qac ?_|(refine qaa ?_;clear hw;intro p w hw)|(refine qad ?_;clear hw;intro w hw)|(refine qab ?_;clear hw;intro s w hw))
    refine go_if (fun h7 => ?_) (fun h7 => ?_)
    ·have hs:spRel i Y a=Y:=by unfold spRel;rw [if_pos h7]
     repeat (first|refine qac ?_|(refine qaa ?_;clear hw;intro p w hw)|(refine qae ?_;clear hw;intro w hw)|(refine qab ?_;clear hw;intro s w hw))
     exact⟨k+1,q',⟨rfl,rfl,trivial⟩,agr,⟨by omega,by rw [hnext,hs];exact hw.sel⟩,by omega⟩
    have h7':¬Y.out.getD i.toNat tInt.dflt+a.wt≥Y.out.getD a.dst.toNat tInt.dflt:=by omega
    repeat (first|refine qac ?_|(refine qaa ?_;clear hw;intro p w hw)|(refine qad ?_;clear hw;intro w hw)|(refine qab ?_;clear hw;intro s w hw))
    refine qax [.op 0,.op 1,.op 2,.op 3,.op 4,.op 5,.op 6,.op 7,.op 8,.op 9,.op 10,.op 11] hw (by kernel_rfl) ?_;clear hw;intro w hw
    repeat (first|refine qac ?_|(refine qaa ?_;clear hw;intro p w hw)|(refine qad ?_;clear hw;intro w hw)|(refine qab ?_;clear hw;intro s w hw))
    by_cases hwt:Y.waits.getD a.dst.toNat tBool.dflt=true
    ·have hs:spRel i Y a=⟨Y.out.set a.dst.toNat (Y.out.getD i.toNat tInt.dflt+a.wt),Y.waits,Y.q⟩:=by unfold spRel;rw [if_neg h7',if_pos hwt]
     rw [hwt]
     repeat (first|refine qac ?_|(refine qaa ?_;clear hw;intro p w hw)|(refine qae ?_;clear hw;intro w hw)|(refine qab ?_;clear hw;intro s w hw))
     exact⟨k+1,q',⟨rfl,rfl,trivial⟩,agr,⟨by omega,by rw [hnext,hs];exact hw.sel⟩,by omega⟩
    ·have hs:spRel i Y a=⟨Y.out.set a.dst.toNat (Y.out.getD i.toNat tInt.dflt+a.wt),Y.waits.set a.dst.toNat true,Y.q++[a.dst]⟩:=by unfold spRel;rw [if_neg h7',if_neg hwt]
     rw [Bool.not_eq_true] at hwt
     rw [hwt]
     repeat (first|refine qac ?_|(refine qaa ?_;clear hw;intro p w hw)|(refine qad ?_;clear hw;intro w hw)|(refine qab ?_;clear hw;intro s w hw))
     refine qax [.op 0,.op 1,.op 2,.op 3,.op 4,.op 5,.op 6,.chk 2,.op 7,.chk 2,.op 8,.op 9,.op 10] hw (by kernel_rfl) ?_;clear hw;intro w hw
     repeat (first|refine qac ?_|(refine qaa ?_;clear hw;intro p w hw)|(refine qad ?_;clear hw;intro w hw)|(refine qab ?_;clear hw;intro s w hw))
     exact⟨k+1,s,⟨rfl,rfl,trivial⟩,agr,⟨by omega,by rw [hnext,hs];exact hw.sel⟩,by omega⟩
   have hkn:k=AR.length:=by omega
   rw [hkn,List.take_length,←hstep] at hYe
   repeat (first|refine qac ?_|(refine qaa ?_;clear hw;intro p w hw)|(refine qae ?_;clear hw;intro w hw)|(refine qab ?_;clear hw;intro s w hw))
   refine⟨j+1,q',⟨rfl,trivial⟩,agr,⟨Y,by rw [hYe,hX];rfl,hY,hw.sel⟩,?_⟩
   have:=(hok.step hAo.ok).2.1 (by unfold spDone;rw [hq];rfl)
   rw [hX] at this
   exact this
  have hend:spDone X=true:=by
   unfold spDone
   cases hq:X.q with
   | nil=>rfl
   | cons i r =>
    have:X.q.length=r.length+1:=by rw [hq];rfl
    omega
  have hfx:spL S fr true=X.out:=by
   unfold spL
   rw [←hA,←hn,fixF_eq (qcC A) (n:=j) (by rw [←hX];exact hend),←hX]
  rw [hfx]
  repeat (first|refine qac ?_|(refine qaa ?_;clear hw;intro p w hw)|(refine qae ?_;clear hw;intro w hw)|(refine qab ?_;clear hw;intro s w hw))
  exact qai (v:=ov) rfl rfl ⟨ov,rfl,hw.sel⟩
end Go.Proofs.YtjdlohdcdmhigaaGreatDoor
