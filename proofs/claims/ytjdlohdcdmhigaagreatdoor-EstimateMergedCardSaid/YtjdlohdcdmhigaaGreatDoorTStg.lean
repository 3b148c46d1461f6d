/-
  Stages: what each step of the construction keeps, and that a state's number stays in range.
-/
import Derived.Test.YtjdlohdcdmhigaaGreatDoorTMrg2
set_option linter.unusedSimpArgs false
set_option linter.unusedVariables false
namespace Go.Proofs.YtjdlohdcdmhigaaGreatDoor
open Go.Sl
theorem qor {c:List Int}{n k:Int}(h:ClsOk c n k) (hn:1≤n):1≤k:=by
 obtain⟨h1,h2,h3,_⟩:=h
 have hm:c.getD 0 tInt.dflt∈c:=qal tInt.dflt (by omega)
 have a:=(h2 _ hm).1
 have b:=h3 _ hm
 omega
open Classical in
theorem qnY {c:List Int}{n:Int}(h:clsB c n=true):0≤clsN c n∧ClsOk c n (clsN c n):=by
 unfold clsB at h
 rw [decide_eq_true_eq] at h
 unfold clsN
 rw [dif_pos h]
 exact Classical.choose_spec h
structure SmlI (S:SysV) (C:List Int) (S':SysV):Prop where
 len:(C.length:Int)=S.st
 rng:∀ i:Nat,i<C.length→0≤C.getD i tInt.dflt∧C.getD i tInt.dflt<S'.st
 st1:1≤S'.st
 st2:S'.st≤S.st
theorem sml_i {S:SysV}{most:Int}(h1:1≤S.st) (hE:smlErr S most=0):SmlI S (smlC S most) (smlS S most):=by
 by_cases hm:S.st≤most
 ·have hC:smlC S most=sameL S.st.toNat:=by unfold smlC;rw [if_pos hm]
  have hS:smlS S most=S:=by unfold smlS;rw [if_pos hm]
  rw [hC,hS]
  have hl:(sameL S.st.toNat).length=S.st.toNat:=by simp [sameL]
  refine⟨by omega,fun i hi => ?_,h1,Int.le_refl _⟩
  have:(sameL S.st.toNat).getD i tInt.dflt=(i:Int):=by
   rw [hl] at hi
   simp [sameL,List.getD,hi]
  omega
 ·by_cases hv:ValS S
  ·have hC:smlC S most=mrgC S most:=by unfold smlC;rw [if_neg hm,if_pos hv]
   have hS:smlS S most=quoS S (mrgC S most):=by unfold smlS;rw [if_neg hm,if_pos hv]
   have hE2:quoErr S (mrgC S most)=0:=by unfold smlErr at hE;rwa [if_neg hm,if_pos hv] at hE
   rw [hC,hS]
   have hcb:clsB (mrgC S most) S.st=true:=by
    unfold quoErr at hE2
    by_cases h:valB S=true∧clsB (mrgC S most) S.st=true
    ·exact h.2
    ·rw [if_neg h] at hE2;exact absurd hE2 (by decide)
   obtain⟨q1,q2⟩:=qnY hcb
   have hst:(quoS S (mrgC S most)).st=clsN (mrgC S most) S.st:=by unfold quoS;rw [if_pos hE2]
   have hk1:=qor q2 h1
   obtain⟨c1,c2,c3,c4⟩:=q2
   refine⟨c1,fun i hi => ?_,by omega,?_⟩
   ·have hm:(mrgC S most).getD i tInt.dflt∈mrgC S most:=qal tInt.dflt hi
    have:=c2 _ hm
    have:=c3 _ hm
    omega
   ·have:=c2 _ (c4 (clsN (mrgC S most) S.st-1) (by omega) (by omega))
    omega
  ·unfold smlErr at hE
   rw [if_neg hm,if_neg hv] at hE
   exact absurd hE (by decide)
theorem qkV {t:TTask}{v:Nat}(hg:GoodT t) (hv:v<t.vars.length):(sysOk t [(v:Int)]).st=t.vars.getD v tInt.dflt:=by
 show cntL t.vars [(v:Int)]=_
 simp [cntL,valsL,prodL,sg,List.getD,hv,tInt]
inductive Ch (vars:List Int):List StgV→Int→Prop
 | one (x:StgV):x.var=0→((x.cls.length:Int)=vars.getD 0 tInt.dflt)→(∀ i:Nat,i<x.cls.length→0≤x.cls.getD i tInt.dflt∧x.cls.getD i tInt.dflt<x.sts)→0<vars.length→Ch vars [x] x.sts
 | snoc (l:List StgV) (n m:Int) (y:StgV):Ch vars l n→y.var=(l.length:Int)→((y.cls.length:Int)=vars.getD l.length tInt.dflt)→(∀ i:Nat,i<y.cls.length→0≤y.cls.getD i tInt.dflt∧y.cls.getD i tInt.dflt<y.sts)→l.length<vars.length →
   ((y.aft.length:Int)=n)→(∀ i:Nat,i<y.aft.length→0≤y.aft.getD i tInt.dflt∧y.aft.getD i tInt.dflt<m)→m*y.sts≤4096→Ch vars (l++[y]) (m*y.sts)
theorem qiG {s:List Int}{l:List StgV}{y:StgV}(h:l≠[]):atL s (l++[y])=y.aft.getD (atL s l).toNat tInt.dflt*y.sts+y.cls.getD (s.getD y.var.toNat tInt.dflt).toNat tInt.dflt:=by
 cases l with
 | nil=>exact absurd rfl h
 | cons x r=>simp only [atL,List.cons_append,List.foldl_append,List.foldl_cons,List.foldl_nil]
theorem Ch.ne {vars:List Int}{l:List StgV}{n:Int}(h:Ch vars l n):l≠[]:=by cases h <;> simp
theorem Ch.at {vars s:List Int}(hs:StateOk vars s) {l:List StgV}{n:Int}(h:Ch vars l n):0≤atL s l∧atL s l<n:=by
 induction h with
 | one x hv hl hr hp =>
  have e:atL s [x]=x.cls.getD (s.getD x.var.toNat tInt.dflt).toNat tInt.dflt:=rfl
  rw [e]
  have h0:=hs.2 0 (by rw [hs.1];exact hp)
  rw [hv]
  have:=hr (s.getD 0 tInt.dflt).toNat (by omega)
  exact this
 | snoc l n m y h hv hl hr hp ha har hm ih =>
  rw [qiG h.ne]
  have h0:=hs.2 l.length (by rw [hs.1];exact hp)
  rw [hv]
  have hc:=hr (s.getD l.length tInt.dflt).toNat (by omega)
  have ha1:=har (atL s l).toNat (by omega)
  rw [show ((l.length:Nat):Int).toNat=l.length from by omega]
  obtain⟨c0,c1⟩:=hc
  obtain⟨b0,b1⟩:=ha1
  generalize y.cls.getD (s.getD l.length tInt.dflt).toNat tInt.dflt=u at c0 c1 ⊢
  generalize y.aft.getD (atL s l).toNat tInt.dflt=v at b0 b1 ⊢
  have h1:0≤v*y.sts:=Int.mul_nonneg b0 (by omega)
  have h2:(v+1)*y.sts≤m*y.sts:=Int.mul_le_mul_of_nonneg_right (by omega) (by omega)
  rw [Int.add_mul,Int.one_mul] at h2
  omega
noncomputable def cnL (t:TTask) (most:Int) (k:Nat):CnS:=if k=0 then ⟨sysNo,[],0⟩ else cnK t most k
theorem qhE (t:TTask) (most:Int):cnL t most 1=cnFst t most 0:=rfl
theorem qfT {t:TTask}{most:Int}{k:Nat}(hk:0<k):cnL t most (k+1)=cnNxt t most (cnL t most k) k:=by
 obtain⟨j,rfl⟩:∃ j,k=j+1:=⟨k-1,by omega⟩
 rfl
theorem qhF {t:TTask}{most:Int}{k:Nat}(hk:0<k) (he:(cnL t most k).err≠0):∀ m,k≤m→cnL t most m=cnL t most k:=by
 intro m hm
 induction m with
 | zero=>omega
 | succ m ih =>
  by_cases e:k=m+1
  ·rw [e]
  ·have h1:=ih (by omega)
   rw [qfT (by omega),h1]
   unfold cnNxt
   rw [if_pos he]
end Go.Proofs.YtjdlohdcdmhigaaGreatDoor
