/-
  Contract of 'pdb.distances': Dijkstra's algorithm.
-/
import Derived.Test.YtkmbenhffledpaaGreatMW21
import Derived.Test.YtkmbenhffledpaaGreatMW9
set_option linter.unusedSimpArgs false
set_option linter.unusedVariables false
namespace Go.Proofs.YtkmbenhffledpaaGreat
open Go.Sl Go
attribute [local irreducible] vc opsW opsD opV opW PureV ReadV Thn Blk
instance inWPdbDist1:OneT tEdg:=⟨fun x v hv=>by simp only [tEdg,List.mem_cons,List.not_mem_nil,or_false] at hv;rcases hv with rfl|rfl|rfl <;> rfl⟩
def bktL (E:List Edg) (n:Nat):List (List Edg):=(List.range n).map fun (u:Nat)=>bucket E (u:Int)
theorem qmo (E:List Edg) (n:Nat):(bktL E n).length=n:=by simp [bktL]
theorem qrz (n:Nat):bktL [] n=List.replicate n []:=by
 apply List.ext_getElem (by simp [bktL])
 intro i h1 h2
 simp [bktL,bucket]
theorem qkW {E:List Edg}{n u:Nat}(h:u<n):(bktL E n).getD u []=bucket E (u:Int):=by simp [bktL,List.getD,h]
theorem qpw {E:List Edg}{n:Nat}{e:Edg}(h0:0≤e.dst) (h:e.dst<n):(bktL E n).set e.dst.toNat ((bktL E n).getD e.dst.toNat []++[e])=bktL (E++[e]) n:=by
 rw [qkW (by omega)]
 apply List.ext_getElem (by simp [bktL])
 intro i h1 h2
 rw [List.getElem_set]
 have hi:i<n:=by simpa [bktL] using h2
 have e1:(bktL (E++[e]) n)[i]=bucket (E++[e]) (i:Int):=by simp [bktL]
 rw [e1]
 split
 ·rename_i he
  subst he
  rw [Int.toNat_of_nonneg h0]
  simp [bucket]
 ·rename_i he
  have:¬e.dst=(i:Int):=by omega
  simp [bktL,bucket,this]
theorem qhJ (E:List Edg) (u:Int):(bucket E u).length≤E.length:=List.length_filter_le _ _
set_option maxRecDepth 8000 in
set_option maxHeartbeats 4000000 in
theorem qgV {w0:World}{cv ev gv kv:Value}{S:SysV}{cs:List Int}(h:RSys w0 cv ev gv S) (hk:RS tInt w0 kv cs) (hst0:0≤S.st) (hst1:S.st≤4096) (hgl:(S.goals.length:Int)=S.st) (hel:S.edges.length≤65536) (hE:EOk S.edges cs S.st.toNat) :
  Calls Tryz.prog 119 #[sysV S cv ev gv,kv] w0 fun e w'=>∃ s D,e=.returned s∧DistOk S.edges cs (fun i=>S.goals.getD i.toNat tBool.dflt=true) S.st.toNat D∧Sat w0 w' [OS tInt 3 s D]:=by
 obtain⟨hc,he,hg⟩:=h
 have le:=he.big
 have lk:=hk.big
 have hw:=Sat.start w0
 refine qab (args:=[.agg #[.int .i64 S.st,.int .i64 S.ini,cv,ev,gv],kv]) mixed Tryz.func119 rfl (by kernel_rfl) (Nat.le_of_ble_eq_true rfl) ?_
 repeat (first|refine qaa ?_|(refine qaf ?_;clear hw;intro p w hw)|(refine qaq ?_;clear hw;intro s w hw))
 obtain⟨px,hpx⟩:∃ px,px=p:=⟨p,rfl⟩
 subst hpx
 obtain⟨tv,htv⟩:∃ tv,tv=s:=⟨s,rfl⟩
 subst htv
 have hw:=hw.rowsNil (T:=tEdg) (e:=208) S.st.toNat
 rw [←qrz] at hw
 refine qao [7,23,24,25,26,27,28,29,30,31,32,33,34,35,36,37,38,39] (G:=Nat) (H:=List Value) (fun k _=>[(23,.int .i64 k)]) (fun k ts w=>k≤S.edges.length∧ts.length=S.st.toNat∧Sat w0 w [RowsAt tEdg 208 ts (bktL (S.edges.take k) S.st.toNat),OS tVal 155 tv ts,Box px 157 [.int .i64 S.st,.int .i64 S.ini,cv,ev,gv]]) (fun k _=>S.edges.length-k) 0 _ (fun _ _=>rfl) ⟨rfl,trivial⟩ ⟨Nat.zero_le _,by simp,hw⟩ ?_
 clear hw
 rintro σ k ts w ⟨hk1,hts,hw⟩
 repeat refine qaa ?_
 refine go_if (fun h1 => ?_) (fun h1 => ?_)
 ·have hkl:k<S.edges.length:=by omega
  obtain⟨e1,e2,e3,e4⟩:=hE.getD hkl
  have hbl:=qmo (S.edges.take k) S.st.toNat
  repeat (first|refine qaa ?_|(refine qaf ?_;clear hw;intro p w hw)|(refine qai ?_;clear hw;intro w hw))
  obtain⟨pe,hpe⟩:∃ pe,pe=p:=⟨p,rfl⟩
  subst hpe
  have hi:(S.edges.getD k tEdg.dflt).dst.toNat<(bktL (S.edges.take k) S.st.toNat).length:=by omega
  replace hw:=hw.swap.rowOut hi
  have hrl:((bktL (S.edges.take k) S.st.toNat).getD (S.edges.getD k tEdg.dflt).dst.toNat []).length≤65536:=by
   rw [qkW (by omega)]
   have:=qhJ (S.edges.take k) ((S.edges.getD k tEdg.dflt).dst.toNat:Int)
   simp only [List.length_take] at this
   omega
  refine qas [.op 0,.op 1,.op 2,.op 3,.op 4,.op 5,.op 6,.op 7,.op 8,.op 9,.chk 2,.chk 5,.chk 7,.op 10,.chk 2,.op 11,.op 12] hw (by kernel_rfl) ?_;clear hw;intro w hw
  repeat refine qaa ?_
  refine qah tEdg (x1:=S.edges.getD k tEdg.dflt) rfl rfl rfl (Nat.le_of_ble_eq_true rfl) (Nat.zero_lt_succ _) hw ?_
  clear hw
  intro s w hw
  repeat (first|refine qaa ?_|(refine qag ?_;clear hw;intro w hw)|(refine qaq ?_;clear hw;intro s w hw))
  replace hw:=Sat.rowIn hi (by omega) hw.tail
  replace hw:=hw.swap.tail
  rw [qpw e2.1 (by omega),←qan tEdg.dflt hkl] at hw
  exact⟨k+1,_,⟨rfl,trivial⟩,agr,⟨by omega,by simpa using hts,hw⟩,by omega⟩
 have hke:k=S.edges.length:=by omega
 subst hke
 rw [List.take_length] at hw
 have hbl:=qmo S.edges S.st.toNat
 have hrl:(List.replicate S.st.toNat (0:Int)).length=S.st.toNat:=List.length_replicate
 repeat (first|refine qaa ?_|(refine qaq ?_;clear hw;intro s w hw))
 obtain⟨ov,hov⟩:∃ ov,ov=s:=⟨s,rfl⟩
 subst hov
 refine qaO tItem hw ?_
 clear hw
 intro s w hw
 repeat (first|refine qaa ?_|(refine qaf ?_;clear hw;intro p w hw))
 obtain⟨pq,hpq⟩:∃ pq,pq=p:=⟨p,rfl⟩
 subst hpq
 have hsc:s.cells.toList=[s]:=((hw.rs 1 rfl).cells1)
 rw [hsc] at hw
 rw [←qgB (fun i=>S.goals.getD i.toNat tBool.dflt=true)] at hw
 have hw1:Sat w0 w [OS tItem 269 s [],Box pq 267 [s],OS tInt 3 ov (dist0K (fun i=>S.goals.getD i.toNat tBool.dflt=true) S.st.toNat 0),RowsAt tEdg 208 ts (bktL S.edges S.st.toNat),OS tVal 155 tv ts,Box px 157 [.int .i64 S.st,.int .i64 S.ini,cv,ev,gv]]:=hw.swap
 clear hw
 have hlen:∀ k,(dist0K (fun i=>S.goals.getD i.toNat tBool.dflt=true) S.st.toNat k).length=S.st.toNat:=fun k=>qhO _ _ k
 refine qay [10,11,48,49,50,51,52,53,54,55,56,57,58,59,60,61,62,63,64,65,66] (G:=Nat) (H:=Value) (I:=List Item) (fun k _ _=>[(48,.int .i64 k)]) (fun k hv xs w=>k≤S.st.toNat∧IsHeap tItem.dflt ilt xs∧xs.length≤k∧xs.Nodup∧(∀ x,x∈xs↔∃ i:Nat,i<k∧(fun i=>S.goals.getD i.toNat tBool.dflt=true) (i:Int)∧x=⟨0,i⟩)∧Sat w0 w [OS tItem 269 hv xs,Box pq 267 [hv],OS tInt 3 ov (dist0K (fun i=>S.goals.getD i.toNat tBool.dflt=true) S.st.toNat k),RowsAt tEdg 208 ts (bktL S.edges S.st.toNat),OS tVal 155 tv ts,Box px 157 [.int .i64 S.st,.int .i64 S.ini,cv,ev,gv]]) (fun k _ _=>S.st.toNat-k) 0 s [] (fun _ _ _=>rfl) ⟨rfl,trivial⟩ ⟨Nat.zero_le _,qhk,Nat.le_refl _,List.nodup_nil,(fun x=>by simp),hw1⟩ ?_
 clear hw1
 rintro σ1 k hv xs w ⟨hk2,hH,hxl,hnd,hmem,hw⟩
 have hlk:=hlen k
 have hsl:((dist0K (fun i=>S.goals.getD i.toNat tBool.dflt=true) S.st.toNat k).set k 1125899906842624).length=S.st.toNat:=by rw [List.length_set,hlk]
 repeat refine qaa ?_
 refine go_if (fun h2 => ?_) (fun h2 => ?_)
 ·have hkl:k<S.st.toNat:=by omega
  repeat (first|refine qaa ?_|(refine qag ?_;clear hw;intro w hw))
  refine go_if (fun h3 => ?_) (fun h3 => ?_)
  ·repeat (first|refine qaa ?_|(refine qag ?_;clear hw;intro w hw))
   rw [qgC (G:=(fun i=>S.goals.getD i.toNat tBool.dflt=true)) (k:=k) (by simp only [Int.toNat_natCast];exact h3)] at hw
   refine qac rfl (qdJ (v:=⟨0,k⟩) hH (by omega) hw) ?_
   clear hw
   rintro _ w ⟨rfl,hv',ys,hH',hp,hw⟩
   refine⟨_,rfl,?_⟩
   repeat refine qaa ?_
   have hnew:(⟨0,k⟩:Item)∉xs:=fun hx=>by
    obtain⟨i,hi,_,he'⟩:=(hmem _).1 hx
    simp only [Item.mk.injEq,true_and] at he'
    omega
   refine⟨k+1,hv',ys,⟨rfl,trivial⟩,agr,⟨by omega,hH',by rw [hp.length_eq];simp;omega,hp.nodup_iff.2 (List.nodup_cons.2 ⟨hnew,hnd⟩),fun x => ?_,hw⟩,by omega⟩
   rw [hp.mem_iff,List.mem_cons,hmem]
   constructor
   ·rintro (rfl|⟨i,hi,hg1,hg2⟩)
    ·exact⟨k,by omega,by simp only [Int.toNat_natCast];exact h3,rfl⟩
    ·exact⟨i,by omega,hg1,hg2⟩
   ·rintro⟨i,hi,hg1,hg2⟩
    by_cases hik:i=k
    ·subst hik;exact .inl hg2
    ·exact .inr ⟨i,by omega,hg1,hg2⟩
  ·repeat refine qaa ?_
   rw [qj5 (G:=(fun i=>S.goals.getD i.toNat tBool.dflt=true)) (k:=k) (by simp only [Int.toNat_natCast];rw [h3];decide)] at hw
   refine⟨k+1,hv,xs,⟨rfl,trivial⟩,agr,⟨by omega,hH,by omega,hnd,fun x => ?_,hw⟩,by omega⟩
   rw [hmem]
   constructor
   ·rintro⟨i,hi,hg1,hg2⟩;exact⟨i,by omega,hg1,hg2⟩
   ·rintro⟨i,hi,hg1,hg2⟩
    by_cases hik:i=k
    ·subst hik;simp only [Int.toNat_natCast] at hg1;rw [h3] at hg1;cases hg1
    ·exact⟨i,by omega,hg1,hg2⟩
 have hke:k=S.st.toNat:=by omega
 subst hke
 rw [qhP] at hw
 have hDJ:=DJ.start S.edges cs (fun i=>S.goals.getD i.toNat tBool.dflt=true) S.st.toNat hmem hnd
 have hrE:=qrA S.edges []
 clear hlk hsl hlen hrl
 repeat refine qaa ?_
 refine qap [12,13,15,16,67,68,69,70,71,72,73,74,75,76,77,78,79,80,81,82,83,84,85,86,87,88,89,90,91,92,93,94,95,96,97,98,99,100,101,102,103,104,105,106,107,108,109,110,111,112,113,114,115,116,117,118,119,120,121,122,123,124,125] (G:=List Int × Value × List Item × List Int × Int) (fun _=>[]) (fun x w=>DJ0 S.edges cs (fun i=>S.goals.getD i.toNat tBool.dflt=true) S.st.toNat x.1 x.2.2.1 x.2.2.2.1 x.2.2.2.2∧IsHeap tItem.dflt ilt x.2.2.1∧x.2.2.1.length+restE S.edges x.2.2.2.1≤4096+65536∧Sat w0 w [OS tItem 269 x.2.1 x.2.2.1,Box pq 267 [x.2.1],OS tInt 3 ov x.1,RowsAt tEdg 208 ts (bktL S.edges S.st.toNat),OS tVal 155 tv ts,Box px 157 [.int .i64 S.st,.int .i64 S.ini,cv,ev,gv]]) (fun x=>x.2.2.1.length+restE S.edges x.2.2.2.1) (_,hv,xs,[],0) (fun _=>rfl) trivial ⟨hDJ,hH,by simp only;omega,hw⟩ ?_
 clear hw hDJ hrE hH hmem hnd hxl
 rintro σ2 ⟨D,hv,xs,Sn,m⟩ w ⟨hD,hH,hb,hw⟩
 simp only at hD hH hb hw
 repeat refine qaa ?_
 refine qac rfl (qgU (h:=hv) (rsO hw)) ?_
 rintro _ w' ⟨rfl,hk'⟩
 replace hw:=hw.call0 hk'
 clear hk'
 refine⟨_,rfl,?_⟩
 repeat refine qaa ?_
 refine go_if (fun h4 => ?_) (fun h4 => ?_)
 ·have hxp:0<xs.length:=by omega
  repeat refine qaa ?_
  refine qac rfl (qi7 hH hxp (by omega) hw) ?_
  clear hw
  rintro _ w ⟨x,hv',ys,rfl,hH',hp,hmin,hw⟩
  have hpl:=hp.length_eq
  simp only [List.length_cons] at hpl
  refine⟨_,rfl,?_⟩
  repeat (first|refine qaa ?_|(refine qaf ?_;clear hw;intro p w hw)|(refine qag ?_;clear hw;intro w hw))
  obtain⟨pi,hpi⟩:∃ pi,pi=p:=⟨p,rfl⟩
  subst hpi
  have hD1:DJ0 S.edges cs (fun i=>S.goals.getD i.toNat tBool.dflt=true) S.st.toNat D (x::ys) Sn m:=hD.perm hp.symm
  obtain⟨f1,f2,f3,f4,f5⟩:=hD1.ent x (by simp)
  have hDl:=hD.inv.len
  have hxr:=hD.inv.rng x.state.toNat (by omega)
  rw [Int.toNat_of_nonneg f1.1] at hxr
  have hm0:=hD.m0
  repeat refine qaa ?_
  refine go_if (fun h5 => ?_) (fun h5 => ?_)
  ·repeat refine qaa ?_
   refine⟨(D,hv',ys,Sn,m),trivial,agr,⟨hD1.skip h5,hH',by simp only;omega,hw.sel⟩,by simp only;omega⟩
  ·have h5':¬dg D x.state<x.dist:=by simp only [dg];omega
   obtain⟨hD2,hnS,hdx,_,hxi⟩:=hD1.take h5' (fun y hy=>by
    have:=hmin y (hp.mem_iff.2 (by simp [hy]))
    simp only [hle,ilt,decide_eq_false_iff_not] at this
    omega)
   have hrc:=qhK hnS S.edges
   have hxi':x.dist<1125899906842624:=hxi
   have hbl2:=qhJ S.edges x.state
   have hbk:(bktL S.edges S.st.toNat).getD x.state.toNat []=bucket S.edges x.state:=by
    rw [qkW (by omega),Int.toNat_of_nonneg f1.1]
   have hrow:=(hw.focus 4 rfl).row (i:=x.state.toNat) (by omega)
   rw [hbk] at hrow
   have hrow0:=hrow
   repeat refine qaa ?_
   refine qfs [15,16,93,94,95,96,97,98,99,100,101,102,103,104,105,106,107,108,109,110,111,112,113,114,115,116,117,118,119,120,121,122,123,124,125] (G:=Nat) (H:=List Int) (I:=Value) (M:=List Item) (fun k _ _ _=>[(93,.int .i64 k)]) (fun k D' hv2 xs2 w=>k≤(bucket S.edges x.state).length∧DJ S.edges cs (fun i=>S.goals.getD i.toNat tBool.dflt=true) S.st.toNat D' xs2 (x.state::Sn) x.dist (fun e=>e.dst∈Sn∨∃ i,i<k∧(bucket S.edges x.state).getD i tEdg.dflt=e)∧dg D' x.state=x.dist∧IsHeap tItem.dflt ilt xs2∧xs2.length≤ys.length+k∧Sat w0 w [OS tItem 269 hv2 xs2,Box pq 267 [hv2],Box pi 269 [.int .i64 x.dist,.int .i64 x.state],OS tInt 3 ov D',RowsAt tEdg 208 ts (bktL S.edges S.st.toNat),OS tVal 155 tv ts,Box px 157 [.int .i64 S.st,.int .i64 S.ini,cv,ev,gv]]) (fun k _ _ _=>(bucket S.edges x.state).length-k) 0 D hv' ys (fun _ _ _ _=>rfl) ⟨rfl,trivial⟩ ⟨Nat.zero_le _,?_,hdx,hH',by omega,hw.sel⟩ ?_
   ·refine⟨hD2.inv,hD2.ent,hD2.nd,hD2.set,hD2.act,fun e he hm hd=>hD2.stb e he hm ?_,hD2.m0⟩
    rcases hd with hd|⟨i,hi,_⟩
    ·exact hd
    ·exact absurd hi (Nat.not_lt_zero _)
   clear hw hrow
   rintro σ3 k D' hv2 xs2 w ⟨hk3,hD',hdx',hH2,hl2,hw⟩
   have hrow:=(hw.focus 4 rfl).row (i:=x.state.toNat) (by omega)
   rw [hbk] at hrow
   have hDl':=hD'.inv.len
   repeat refine qaa ?_
   refine go_if (fun h6 => ?_) (fun h6 => ?_)
   ·have hkl:k<(bucket S.edges x.state).length:=by omega
    obtain⟨hme,hmd⟩:=qhL.1 (qak tEdg.dflt hkl)
    have e1:=hE.src _ hme
    have e3:=hE.lab _ hme
    have e4:=hE.cst hme
    simp only [cst] at e4
    have r1:=hD'.inv.rng ((bucket S.edges x.state).getD k tEdg.dflt).src.toNat (by omega)
    rw [Int.toNat_of_nonneg e1.1] at r1
    simp only [dg] at r1
    have hstep:∀ {c D xs},DJ S.edges cs (fun i=>S.goals.getD i.toNat tBool.dflt=true) S.st.toNat D xs (x.state::Sn) x.dist (fun e=>(e.dst∈Sn∨∃ i,i<k∧(bucket S.edges x.state).getD i tEdg.dflt=e)∨e=c)→c=(bucket S.edges x.state).getD k tEdg.dflt→DJ S.edges cs (fun i=>S.goals.getD i.toNat tBool.dflt=true) S.st.toNat D xs (x.state::Sn) x.dist (fun e=>e.dst∈Sn∨∃ i,i<k+1∧(bucket S.edges x.state).getD i tEdg.dflt=e):=by
     intro c D xs hh hc
     refine⟨hh.inv,hh.ent,hh.nd,hh.set,hh.act,fun e he hm hd=>hh.stb e he hm ?_,hh.m0⟩
     rcases hd with hd|⟨i,hi,hie⟩
     ·exact .inl (.inl hd)
     ·by_cases hik:i=k
      ·subst hik;exact .inr (by rw [hc,hie])
      ·exact .inl (.inr ⟨i,by omega,hie⟩)
    repeat (first|refine qaa ?_|(refine qaf ?_;clear hw;intro p w hw)|(refine qag ?_;clear hw;intro w hw))
    refine go_if (fun h7 => ?_) (fun h7 => ?_)
    ·have hrx:=hD'.relax hE hme (by rw [hmd];simp) (by rw [hmd];exact hdx') hxi (by simp only [dg,cst];exact h7)
     simp only [cst] at hrx
     repeat (first|refine qaa ?_|(refine qag ?_;clear hw;intro w hw))
     refine qac rfl (qdJ (v:=⟨x.dist+cs.getD ((bucket S.edges x.state).getD k tEdg.dflt).lab.toNat tInt.dflt,((bucket S.edges x.state).getD k tEdg.dflt).src⟩) hH2 (by omega) hw.tail) ?_
     clear hw
     rintro _ w ⟨rfl,hv3,zs,hH3,hp3,hw⟩
     refine⟨_,rfl,?_⟩
     repeat refine qaa ?_
     have hne:x.state≠((bucket S.edges x.state).getD k tEdg.dflt).src:=fun he=>by
      have h8:=hdx'
      rw [he] at h8
      simp only [dg] at h8
      omega
     refine⟨k+1,_,hv3,zs,⟨rfl,trivial⟩,agr,⟨by omega,(hstep hrx rfl).perm hp3,?_,hH3,by rw [hp3.length_eq];simp;omega,hw.sel⟩,by omega⟩
     rw [qhM f1.1 e1.1 (by omega),if_neg hne]
     exact hdx'
    ·repeat refine qaa ?_
     refine⟨k+1,D',hv2,xs2,⟨rfl,trivial⟩,agr,⟨by omega,hstep (hD'.keep (e:=(bucket S.edges x.state).getD k tEdg.dflt) fun hlt => ?_) rfl,hdx',hH2,by omega,hw.sel⟩,by omega⟩
     rw [hmd,hdx']
     simp only [dg,cst]
     omega
   ·repeat refine qaa ?_
    refine⟨(D',hv2,xs2,x.state::Sn,x.dist),trivial,agr,⟨hD'.close fun e he hm => ?_,hH2,by simp only;omega,hw.sel⟩,by simp only;omega⟩
    rcases List.mem_cons.1 hm with hm|hm
    ·obtain⟨i,hi,hie⟩:=List.getElem_of_mem (qhL.2 ⟨he,hm⟩)
     exact .inr ⟨i,by omega,by rw [qaj hi];exact hie⟩
    ·exact .inl hm
 ·have hxe:xs=[]:=List.eq_nil_of_length_eq_zero (by omega)
  subst hxe
  repeat refine qaa ?_
  exact qae (v:=ov) rfl rfl ⟨ov,D,rfl,hD.fin hE,hw.sel⟩
end Go.Proofs.YtkmbenhffledpaaGreat
