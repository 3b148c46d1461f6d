/-
  Several texts as one: WPat4, TMore, TInd, TCliR.
-/
import Derived.Test.YtggdgcmjcahbbaaGreatDoorMW13
import Derived.Test.YtggdgcmjcahbbaaGreatDoorMTA
import Derived.Test.YtggdgcmjcahbbaaGreatDoorMW9
import Derived.Test.YtggdgcmjcahbbaaGreatDoorMW12
import Derived.Test.YtggdgcmjcahbbaaGreatDoorMW10
set_option linter.unusedSimpArgs false
set_option linter.unusedVariables false
/-
  Contract of the method 'Value' of the canonical heuristic.
-/
namespace Go.Proofs.YtggdgcmjcahbbaaGreatDoor
open Go.Sl Go
attribute [local irreducible] vc opsW opsD opV opW PureV ReadV Thn Blk
open Classical in
noncomputable def canW (t:TTask) (Ls Ds Cs:List (List Int)) (s:List Int):Int:=if StateOk t.vars s then canV t Ls Ds Cs s else 1125899906842624
theorem qo3 {t:TTask}{Ls Ds Cs:List (List Int)}{s:List Int}(h:¬StateOk t.vars s):canW t Ls Ds Cs s=1125899906842624:=if_neg h
theorem qlq {t:TTask}{Ls Ds Cs:List (List Int)}{s:List Int}(h:StateOk t.vars s):canW t Ls Ds Cs s=canV t Ls Ds Cs s:=if_pos h
set_option maxRecDepth 8000 in
set_option maxHeartbeats 4000000 in
theorem qiV {w0:World}{p:Addr}{t:TTask}{Ls Ds Cs:List (List Int)}{sv:Value}{s:List Int}(hr:RCan w0 p t Ls Ds Cs) (hl:Ls.length≤32) (hDl:Ds.length=Ls.length) (hcl:Cs.length≤4096) (hci:∀ l∈Cs,∀ i∈l,0≤i∧i<Ls.length) (hp:∀ i,i<Ls.length→pErr t (Ls.getD i [])=0) (hD:∀ i,i<Ls.length→DistOk (pEdges t (Ls.getD i [])) (costsT t) (GoalPK t (Ls.getD i [])) (cntL t.vars (Ls.getD i [])).toNat (Ds.getD i [])) (hs:RS tInt w0 sv s) :
  Calls Tryz.prog 14 #[.pointer (some p),sv] w0 fun e w'=>e=.returned (.int .i64 (canW t Ls Ds Cs s))∧Sat w0 w' []:=by
 obtain⟨vv,dv,cv,qs,fs,h1,h2,h3,h4,h5⟩:=hr
 have hql:=h4.1.trans hDl
 have hfl:=h5.len
 have h5r:=h5.rs
 have hw:=Sat.start w0
 refine qab (args:=[.pointer (some p),sv]) mixed Tryz.func14 rfl (by kernel_rfl) (Nat.le_of_ble_eq_true rfl) ?_
 repeat refine qaa ?_
 refine qad rfl (qa4 h2 (hs.at hw)) ?_
 rintro _ w' ⟨⟨r,rfl,hr⟩,hk'⟩
 replace hw:=hw.call0 hk'
 clear hk'
 refine⟨_,rfl,?_⟩
 cases r
 ·rw [qo3 (fun h=>by have:=hr.2 h;cases this)]
  repeat refine qaa ?_
  exact qae (v:=.int .i64 1125899906842624) rfl rfl ⟨rfl,hw⟩
 have hok:=hr.1 rfl
 rw [qlq hok]
 have hvr:∀ k,k<Ls.length→0≤(svalK t Ls Ds s) k∧(svalK t Ls Ds s) k≤1125899906842624:=fun k hk=>qiF (qdd (hp k hk)).2.1 (hD k hk) hok
 repeat (first|refine qaa ?_|(refine qap ?_;clear hw;intro s w hw))
 obtain⟨vv2,hvv2⟩:∃ vv2,vv2=s:=⟨s,rfl⟩
 subst hvv2
 rw [hql,Int.toNat_natCast,←qdF _ (svalK t Ls Ds s)] at hw
 refine qaj [6,7,34,35,36,37,38,39,40,41,42,43,44,45] (G:=Nat) (fun k=>[(34,.int .i64 k)]) (fun k w=>k≤Ls.length∧Sat w0 w [OS tInt 3 vv2 (fillL Ls.length (svalK t Ls Ds s) k)]) (fun k=>Ls.length-k) 0 (fun _=>rfl) ⟨rfl,trivial⟩ ⟨Nat.zero_le _,hw⟩ ?_
 clear hw
 rintro σ k w ⟨hk,hw⟩
 have hfll:=qcd Ls.length (svalK t Ls Ds s) k
 repeat refine qaa ?_
 refine go_if (fun h7 => ?_) (fun h7 => ?_)
 ·have hkl:k<Ls.length:=by omega
  obtain⟨q,hq,hdb⟩:=h4.2 k (by omega)
  have hdo:=qlu (hp k hkl) (hD k hkl)
  have hval:valD (dbI t (Ls.getD k []) (Ds.getD k [])) s=(svalK t Ls Ds s) k:=qil hok
  repeat refine qaa ?_
  rw [hq]
  refine qad rfl (qf4 (hdb.at hw) hdo (hs.at hw)) ?_
  rintro _ w' ⟨rfl,hk'⟩
  replace hw:=hw.call0 hk'
  clear hk'
  rw [hval]
  refine⟨_,rfl,?_⟩
  repeat (first|refine qaa ?_|(refine qag ?_;clear hw;intro w hw))
  rw [show (fillL Ls.length (svalK t Ls Ds s) k).set k ((svalK t Ls Ds s) k)=fillL Ls.length (svalK t Ls Ds s) (k+1) from qeE] at hw
  exact⟨k+1,⟨rfl,trivial⟩,agr,⟨by omega,hw⟩,by omega⟩
 have hke:k=Ls.length:=by omega
 subst hke
 repeat refine qaa ?_
 refine qao [8,10,11,13,51,52,53,54,55,56,57,58,59,60,61,62,63,64,65,66,67,68,69,70,71,72] (G:=Nat) (H:=Int) (fun k b=>[(51,.int .i64 k),(8,.int .i64 b)]) (fun k b w=>k≤Cs.length∧b=bestL (svalK t Ls Ds s) (Cs.take k)∧Sat w0 w [OS tInt 3 vv2 (fillL Ls.length (svalK t Ls Ds s) Ls.length)]) (fun k _=>Cs.length-k) 0 0 (fun _ _=>rfl) ⟨rfl,rfl,trivial⟩ ⟨Nat.zero_le _,rfl,hw⟩ ?_
 clear hw
 rintro σ k b w ⟨hk,hb,hw⟩
 repeat refine qaa ?_
 refine go_if (fun h8 => ?_) (fun h8 => ?_)
 ·have hkl:k<Cs.length:=by omega
  have hrk:=h5.at_ k hkl
  obtain⟨C,hC⟩:∃ C,C=Cs.getD k []:=⟨_,rfl⟩
  have hCm:C∈Cs:=by rw [hC];exact qah [] hkl
  rw [←hC] at hrk
  have hCb:=hrk.big
  repeat refine qaa ?_
  refine qao [11,13,57,58,59,60,61,62,63,64,65,66,67,68] (G:=Nat) (H:=Int) (fun j x=>[(57,.int .i64 j),(11,.int .i64 x)]) (fun j x w=>j≤C.length∧x=capL (svalK t Ls Ds s) (C.take j)∧Sat w0 w [OS tInt 3 vv2 (fillL Ls.length (svalK t Ls Ds s) Ls.length)]) (fun j _=>C.length-j) 0 0 (fun _ _=>rfl) ⟨rfl,rfl,trivial⟩ ⟨Nat.zero_le _,rfl,hw⟩ ?_
  clear hw
  rintro σ1 j x w ⟨hj,hx,hw⟩
  repeat refine qaa ?_
  refine go_if (fun h9 => ?_) (fun h9 => ?_)
  ·have hjl:j<C.length:=by omega
   have hci':=hci C hCm _ (qah tInt.dflt hjl)
   have hfa:=qjt (n:=Ls.length) (f:=(svalK t Ls Ds s)) (k:=Ls.length) (i:=(C.getD j tInt.dflt).toNat) (by omega) (by omega)
   have hfb:=hvr (C.getD j tInt.dflt).toNat (by omega)
   have hxr:=qnc (f:=(svalK t Ls Ds s)) (l:=C.take j) fun i hi=>(hvr i.toNat (by have:=hci C hCm i (List.mem_of_mem_take hi);omega)).1
   have e2:inf=1125899906842624:=rfl
   repeat refine qaa ?_
   refine⟨j+1,_,⟨rfl,rfl,trivial⟩,agr,⟨by omega,?_,hw⟩,by omega⟩
   rw [qal tInt.dflt hjl,qhd,hfa,hx]
   split <;> omega
  have hje:j=C.length:=by omega
  subst hje
  repeat refine qaa ?_
  refine⟨k+1,_,⟨rfl,rfl,trivial⟩,agr,⟨by omega,?_,hw⟩,by omega⟩
  rw [qal [] hkl,qdy,hb,hx,←hC,List.take_length]
  split <;> omega
 have hke:k=Cs.length:=by omega
 subst hke
 rw [List.take_length] at hb
 repeat refine qaa ?_
 exact qae (v:=.int .i64 b) rfl rfl ⟨by rw [hb];rfl,qbr hw⟩
end Go.Proofs.YtggdgcmjcahbbaaGreatDoor
/-
  The canonical value of more patterns, and of patterns in another order, in plain Lean.
-/
namespace Go.Proofs.YtggdgcmjcahbbaaGreatDoor
open Go.Sl Go
theorem qfW {f g:Nat→Int}{C D:Nat}:∀ {n:Nat},(∀ k,k<n→(ib C k↔ib D k)∧(ib C k→f k=g k))→sumM f C n=sumM g D n
 | 0,_=>rfl
 | n+1,h=>by
  have ih:=qfW (n:=n) fun k hk=>h k (by omega)
  have hn:=h n (by omega)
  by_cases hb:ib C n
  ·rw [qbq hb,qbq (hn.1.1 hb),ih,hn.2 hb]
  ·rw [qaT hb,qaT (fun hh=>hb (hn.1.2 hh)),ih]
theorem qmq {f:Nat→Int}{C v:Nat}(hv:¬ib C v):∀ {n:Nat},v<n→sumM f (C ||| 2 ^ v) n=sumM f C n+f v
 | 0,h=>absurd h (Nat.not_lt_zero _)
 | n+1,h=>by
  by_cases e:v=n
  ·subst e
   rw [qbq (ib_or.2 (.inr rfl)),qaT hv]
   congr 1
   refine qfW fun k hk=>⟨?_,fun _=>rfl⟩
   rw [ib_or]
   exact⟨fun hh=>hh.elim id fun e=>by omega,.inl⟩
  ·have ih:=qmq (f:=f) hv (n:=n) (by omega)
   by_cases hb:ib C n
   ·rw [qbq (ib_or.2 (.inl hb)),qbq hb,ih];omega
   ·rw [qaT (fun hh=>(ib_or.1 hh).elim hb fun e2=>e e2.symm),qaT hb,ih]
theorem qfX {f f':Nat→Int}{C m:Nat}{φ:Nat→Nat}:∀ {n:Nat},(∀ k,k<n→φ k<m)→(∀ j k,j<n→k<n→φ j=φ k→j=k)→(∀ k,k<n→f' (φ k)=f k) →
  ∃ C',(∀ v,ib C' v↔∃ k,k<n∧ib C k∧φ k=v)∧sumM f' C' m=sumM f C n
 | 0,_,_,_=>by
  refine⟨0,fun v=>⟨fun h=>by simp [ib] at h,fun⟨k,hk,_⟩=>absurd hk (Nat.not_lt_zero _)⟩,?_⟩
  have h1:∀ m,sumM f' 0 m=0:=fun m=>by
   induction m with
   | zero=>rfl
   | succ m ih=>rw [qaT (by simp [ib]),ih]
  rw [h1];rfl
 | n+1,hm,hi,hf=>by
  obtain⟨C',h1,h2⟩:=qfX (f:=f) (f':=f') (C:=C) (m:=m) (φ:=φ) (n:=n) (fun k hk=>hm k (by omega)) (fun j k hj hk=>hi j k (by omega) (by omega)) fun k hk=>hf k (by omega)
  by_cases hb:ib C n
  ·have hno:¬ib C' (φ n):=fun hh=>by
    obtain⟨k,hk,_,e⟩:=(h1 _).1 hh
    have:=hi k n (by omega) (by omega) e
    omega
   refine⟨C' ||| 2 ^ φ n,fun v => ?_,?_⟩
   ·rw [ib_or,h1]
    constructor
    ·rintro (⟨k,hk,hh⟩|e)
     ·exact⟨k,by omega,hh⟩
     ·exact⟨n,by omega,hb,e.symm⟩
    ·rintro⟨k,hk,hh,e⟩
     by_cases e2:k=n
     ·subst e2;exact .inr e.symm
     ·exact .inl ⟨k,by omega,hh,e⟩
   ·rw [qmq hno (hm n (by omega)),qbq hb,h2,hf n (by omega)]
  ·refine⟨C',fun v => ?_,by rw [qaT hb];exact h2⟩
   rw [h1]
   constructor
   ·rintro⟨k,hk,hh⟩
    exact⟨k,by omega,hh⟩
   ·rintro⟨k,hk,hh,e⟩
    by_cases e2:k=n
    ·subst e2;exact absurd hh hb
    ·exact⟨k,by omega,hh,e⟩
section
variable {t:TTask}{Ls Ds Cs Ls' Ds' Cs':List (List Int)}{N N':Nat→Nat}
theorem CanC.val_eq (h:CanC t Ls Ds N Cs) (h':CanC t Ls' Ds' N' Cs') {s:List Int}{j k:Nat}(hj:j<Ls.length) (hk:k<Ls'.length) (e:Ls'.getD k []=Ls.getD j []):svalK t Ls' Ds' s k=svalK t Ls Ds s j:=by
 have h1:=h.dist j hj
 have h2:=h'.dist k hk
 rw [e] at h2
 unfold svalK
 rw [e,h2.unique h1]
theorem CanC.le (h:CanC t Ls Ds N Cs) (h':CanC t Ls' Ds' N' Cs') {s:List Int}(hs:StateOk t.vars s) (φ:Nat→Nat) (hm:∀ k,k<Ls.length→φ k<Ls'.length) (hi:∀ j k,j<Ls.length→k<Ls.length→φ j=φ k→j=k) (he:∀ k,k<Ls.length→Ls'.getD (φ k) []=Ls.getD k []) :
  canV t Ls Ds Cs s≤canV t Ls' Ds' Cs' s:=by
 obtain⟨C,hC,e⟩:=qne h.cl (f:=svalK t Ls Ds s) fun k hk=>(h.rng hs hk).1
 obtain⟨C',h1,h2⟩:=qfX (f:=svalK t Ls Ds s) (f':=svalK t Ls' Ds' s) (C:=C) (m:=Ls'.length) (φ:=φ) hm hi fun k hk=>h.val_eq h' hk (hm k hk) (he k hk)
 have hC':CliqM Ls'.length N' C':=⟨fun v hv=>by
   obtain⟨k,hk,_,rfl⟩:=(h1 v).1 hv
   exact hm k hk,fun u v hu hv huv=>by
   obtain⟨j,hj,bj,rfl⟩:=(h1 u).1 hu
   obtain⟨k,hk,bk,rfl⟩:=(h1 v).1 hv
   have hjk:j≠k:=fun e=>huv (by rw [e])
   refine (h'.add _ _ (hm j hj) (hm k hk)).2 ⟨huv,?_⟩
   rw [he j hj,he k hk]
   exact ((h.add j k hj hk).1 (hC.clq j k bj bk hjk)).2⟩
 have h3:=qo1 h'.gr h'.cl (f:=svalK t Ls' Ds' s) (fun k hk=>(h'.rng hs hk).1) hC'
 unfold canV
 rw [e]
 omega
end
end Go.Proofs.YtggdgcmjcahbbaaGreatDoor
/-
  Tasks of independent goals: each operator reaches one goal; the systematic patterns are the variables, and the canonical value is the sum.
-/
namespace Go.Proofs.YtggdgcmjcahbbaaGreatDoor
open Go.Sl Go
section
variable {t:TTask}
variable {Ds Cs:List (List Int)}{N:Nat→Nat}
end
end Go.Proofs.YtggdgcmjcahbbaaGreatDoor
/-
  The reference's maximal additive sets, in plain Lean: sets of bits in ascending order, each list put at its place.
-/
namespace Go.Proofs.YtggdgcmjcahbbaaGreatDoor
open Go.Sl Go
structure AddG (t:TTask) (Ls:List (List Int)) (N:Nat→Nat):Prop where
 gr:Gr Ls.length N
 add:∀ u v,u<Ls.length→v<Ls.length→(ib (N u) v↔u≠v∧addT t (Ls.getD u []) (Ls.getD v []))
theorem addG (t:TTask) (Ls:List (List Int)):AddG t Ls (nbA Ls.length (arcP t Ls Ls.length)) :=
 ⟨qoK qic,fun u v hu hv=>by rw [qeQ qic,qm3 hu hv]⟩
end Go.Proofs.YtggdgcmjcahbbaaGreatDoor
