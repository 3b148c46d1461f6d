/-
  Several texts as one: WSatur, TSatLaw, TSat2, TCanon.
-/
import Derived.Test.YtggdgcmjcahbbaaGreatDoorMW8
import Derived.Test.YtggdgcmjcahbbaaGreatDoorMSlB
import Derived.Test.YtggdgcmjcahbbaaGreatDoorMTA
set_option linter.unusedSimpArgs false
set_option linter.unusedVariables false
/-
  Contracts of the package 'saturate': 'pattern', 'New', 'Parts', 'Value'.
-/
namespace Go.Proofs.YtggdgcmjcahbbaaGreatDoor
open Go.Sl Go
attribute [local irreducible] vc opsW opsD opV opW PureV ReadV Thn Blk
structure RLs (w:World) (s:Value) (ss:List Value) (Ls:List (List Int)):Prop where
 rs:RS tVal w s ss
 len:ss.length=Ls.length
 at_:∀ i,i<Ls.length→RS tInt w (vget ss i) (Ls.getD i [])
theorem RLs.at {w0 w:World}{Γ:List HP}{s:Value}{ss:List Value}{Ls:List (List Int)}(h:RLs w0 s ss Ls) (hw:Sat w0 w Γ):RLs w s ss Ls:=⟨h.rs.at hw,h.len,fun i hi=>(h.at_ i hi).at hw⟩
set_option maxRecDepth 8000 in
theorem qgZ {w0:World}{a b c d va:Value}{vs:List OpV}{t:TTask}{L:List Int}(ht:RTask w0 a b c d vs t) (hp:RS tInt w0 va L) :
  Calls Tryz.prog 33 #[.agg #[a,b,c,d],va] w0 fun e w'=>(∃ r,e=.returned (.bool r)∧(r=true↔PatOk t.vars L))∧Sat w0 w' []:=by
 obtain⟨ha,hb,hc,hd⟩:=ht
 have hla:=ha.big
 have hlp:=hp.big
 have hw:=Sat.start w0
 refine qab (args:=[.agg #[a,b,c,d],va]) mixed Tryz.func33 rfl (by kernel_rfl) (Nat.le_of_ble_eq_true rfl) ?_
 repeat (first|refine qaa ?_|(refine qaf ?_;clear hw;intro p w hw))
 obtain⟨pt,hpt⟩:∃ pt,pt=p:=⟨p,rfl⟩
 subst hpt
 refine qaj [4,5,6,9,10,11,12,13,14,15,16,17,18,19,20,21,22,23,24,25,26,27,28,29,30,31,32,33,34,35,36] (G:=Nat) (fun k=>[(9,.int .i64 k)]) (fun k w=>k≤L.length∧(∀ i,i<k→(0≤L.getD i tInt.dflt∧L.getD i tInt.dflt<t.vars.length)∧(0<i→L.getD (i-1) tInt.dflt<L.getD i tInt.dflt))∧Sat w0 w [Box pt 26 [a,b,c,d]]) (fun k=>L.length-k) 0 (fun _=>rfl) ⟨rfl,trivial⟩ ⟨Nat.zero_le _,fun i hi=>absurd hi (Nat.not_lt_zero _),hw⟩ ?_
 clear hw
 rintro σ k w ⟨hk1,hpre,hw⟩
 repeat refine qaa ?_
 refine go_if (fun h1 => ?_) (fun h1 => ?_)
 ·have hkl:k<L.length:=by omega
  have e1:((k:Int)-1).toNat=k-1:=by omega
  repeat refine qaa ?_
  refine go_if (fun h2 => ?_) (fun h2 => ?_)
  ·repeat refine qaa ?_
   refine qae (v:=.bool false) rfl rfl ⟨⟨false,rfl,iffF fun hpk => ?_⟩,hw.tail⟩
   have h3:=hpk k hkl
   rw [e1] at h2
   rcases h2 with (h2|h2)|⟨h2,h4⟩
   ·omega
   ·omega
   ·have:=h3.2 (by omega);omega
  ·rw [e1] at h2
   repeat refine qaa ?_
   refine⟨k+1,⟨rfl,trivial⟩,agr,⟨by omega,fun i hi => ?_,hw⟩,by omega⟩
   by_cases h:i=k
   ·subst h;exact⟨by omega,fun h0=>by omega⟩
   ·exact hpre i (by omega)
 ·repeat refine qaa ?_
  refine qae (v:=.bool true) rfl rfl ⟨⟨true,rfl,iffT fun i hi=>hpre i (by omega)⟩,hw.tail⟩
set_option maxRecDepth 8000 in
theorem qkQ {w0:World}{a b c d va:Value}{vs:List OpV}{t:TTask}{L:List Int}{pv:Addr}(ht:RTask w0 a b c d vs t) (hv:BoxR w0 pv [a,b,c,d]) (hp:RS tInt w0 va L) :
  Calls Tryz.prog 32 #[va,.pointer (some pv)] w0 fun e w'=>(∃ r,e=.returned (.bool r)∧(r=true↔¬PatOk t.vars L))∧Sat w0 w' []:=by
 have hw:=Sat.start w0
 refine qab (args:=[va,.pointer (some pv)]) mixed Tryz.func32 rfl (by kernel_rfl) (Nat.le_of_ble_eq_true rfl) ?_
 repeat refine qaa ?_
 refine qad rfl (qgZ (ht.at hw) (hp.at hw)) ?_
 rintro _ w' ⟨⟨r,rfl,hr⟩,hk'⟩
 replace hw:=hw.call0 hk'
 clear hk'
 refine⟨_,rfl,?_⟩
 repeat refine qaa ?_
 refine qae (v:=.bool (!r)) rfl rfl ⟨⟨_,rfl,?_⟩,hw⟩
 rw [←hr];simp
set_option maxRecDepth 8000 in
theorem qh0 {w0:World}{a b c d s:Value}{vs:List OpV}{t:TTask}{ss:List Value}{Ls:List (List Int)}{pv:Addr}(ht:RTask w0 a b c d vs t) (hv:BoxR w0 pv [a,b,c,d]) (hs:RLs w0 s ss Ls) :
  Calls Tryz.prog 65 #[s,.func (.func 32) #[] #[.pointer (some pv)]] w0 fun e w'=>(∃ r:Int,e=.returned (.int .i64 r)∧(0≤r↔∃ i,i<Ls.length∧¬PatOk t.vars (Ls.getD i [])))∧Sat w0 w' []:=by
 have hrs:=hs.rs
 have hsl:=hs.len
 have hla:=hrs.big
 have hw:=Sat.start w0
 refine qab (args:=[s,.func (.func 32) #[] #[.pointer (some pv)]]) mixed Tryz.func65 rfl (by kernel_rfl) (Nat.le_of_ble_eq_true rfl) ?_
 repeat refine qaa ?_
 refine qaj [4,5,8,9,10,11,12,13,14,15,16,17,18] (G:=Nat) (fun k=>[(8,.int .i64 k)]) (fun k w=>k≤Ls.length∧(∀ i,i<k→PatOk t.vars (Ls.getD i []))∧Sat w0 w []) (fun k=>Ls.length-k) 0 (fun _=>rfl) ⟨rfl,trivial⟩ ⟨Nat.zero_le _,fun i hi=>absurd hi (Nat.not_lt_zero _),hw⟩ ?_
 clear hw
 rintro σ k w ⟨hk,hpre,hw⟩
 repeat refine qaa ?_
 refine go_if (fun h1 => ?_) (fun h1 => ?_)
 ·have hkl:k<Ls.length:=by omega
  repeat refine qaa ?_
  refine qbi (cs:=[.pointer (some pv)]) rfl rfl (qkQ (ht.at hw) (hv.at hw) ((hs.at_ k hkl).at hw)) ?_
  rintro _ w' ⟨⟨r,rfl,hr⟩,hk'⟩
  replace hw:=hw.call0 hk'
  clear hk'
  refine⟨_,rfl,?_⟩
  cases r
  ·have hpk:PatOk t.vars (Ls.getD k []):=by
    by_cases h:PatOk t.vars (Ls.getD k [])
    ·exact h
    ·have:=hr.2 h;cases this
   repeat refine qaa ?_
   refine⟨k+1,⟨rfl,trivial⟩,agr,⟨by omega,fun i hi => ?_,hw⟩,by omega⟩
   by_cases h:i=k
   ·subst h;exact hpk
   ·exact hpre i (by omega)
  ·repeat refine qaa ?_
   refine qae (v:=.int .i64 k) rfl rfl ⟨⟨k,rfl,⟨fun _=>⟨k,hkl,hr.1 rfl⟩,fun _=>by omega⟩⟩,hw⟩
 ·repeat refine qaa ?_
  refine qae (v:=.int .i64 (-1)) rfl rfl ⟨⟨-1,rfl,⟨fun h=>by omega,?_⟩⟩,hw⟩
  rintro⟨i,hi,he⟩
  exact absurd (hpre i (by omega)) he
set_option maxRecDepth 8000 in
theorem qkR {w0:World}{a b c d s:Value}{vs:List OpV}{t:TTask}{ss:List Value}{Ls:List (List Int)}{pv:Addr}(ht:RTask w0 a b c d vs t) (hv:BoxR w0 pv [a,b,c,d]) (hs:RLs w0 s ss Ls) :
  Calls Tryz.prog 31 #[s,.func (.func 32) #[] #[.pointer (some pv)]] w0 fun e w'=>(∃ r,e=.returned (.bool r)∧(r=true↔∃ i,i<Ls.length∧¬PatOk t.vars (Ls.getD i [])))∧Sat w0 w' []:=by
 have hw:=Sat.start w0
 refine qab (args:=[s,.func (.func 32) #[] #[.pointer (some pv)]]) mixed Tryz.func31 rfl (by kernel_rfl) (Nat.le_of_ble_eq_true rfl) ?_
 repeat refine qaa ?_
 refine qad rfl (qh0 ht hv hs) ?_
 rintro _ w' ⟨⟨r,rfl,hr⟩,hk'⟩
 replace hw:=hw.call0 hk'
 clear hk'
 refine⟨_,rfl,?_⟩
 repeat refine qaa ?_
 exact qae (v:=.bool (decide (0≤r))) rfl rfl ⟨⟨_,rfl,by rw [decide_eq_true_eq];exact hr⟩,hw⟩
end Go.Proofs.YtggdgcmjcahbbaaGreatDoor
/-
  Saturated cost partitioning is admissible and consistent.
-/
namespace Go.Proofs.YtggdgcmjcahbbaaGreatDoor
open Go.Sl Go
structure Qp8 (t:TTask) (Ls Ds Ps:List (List Int)):Prop where
 run:Run t Ls (costsT t) Ds Ps
 good:GoodT t
 inv:∀ k,k<Ls.length→InV t.vars (Ls.getD k [])
 small:∀ k,k<Ls.length→cntL t.vars (Ls.getD k [])≤512
 len:Ls.length≤32
section
variable {t:TTask}{Ls Ds Ps:List (List Int)}
end
end Go.Proofs.YtggdgcmjcahbbaaGreatDoor
/-
  Sums that stop at infinity, and scaled costs, for saturated partitions.
-/
namespace Go.Proofs.YtggdgcmjcahbbaaGreatDoor
open Go.Sl Go
section
variable {f:Int}{t:TTask}{Ls Ds Ps Ds' Ps':List (List Int)}
end
end Go.Proofs.YtggdgcmjcahbbaaGreatDoor
/-
  The canonical heuristic, in plain Lean: additive patterns, sums over sets of bits, admissible and consistent.
-/
namespace Go.Proofs.YtggdgcmjcahbbaaGreatDoor
open Go.Sl Go
def sumM (f:Nat→Int) (C:Nat) (n:Nat):Int:=sumV (fun v=>if C.testBit v then f v else 0) n
theorem qld (f:Nat→Int) (C:Nat):sumM f C 0=0:=rfl
theorem qbq {f:Nat→Int}{C n:Nat}(h:ib C n):sumM f C (n+1)=sumM f C n+f n:=by
 unfold sumM;rw [qds,if_pos h]
theorem qaT {f:Nat→Int}{C n:Nat}(h:¬ib C n):sumM f C (n+1)=sumM f C n:=by
 unfold sumM;rw [qds,if_neg h];omega
theorem qle {f:Nat→Int}{C:Nat}:∀ {n:Nat},(∀ k,k<n→0≤f k)→0≤sumM f C n
 | 0,_=>Int.le_refl _
 | n+1,h=>by
  have h1:=qle (C:=C) (n:=n) fun k hk=>h k (by omega)
  have h2:=h n (by omega)
  by_cases hb:ib C n
  ·rw [qbq hb];omega
  ·rw [qaT hb];exact h1
theorem qhc {f:Nat→Int}{C C':Nat}:∀ {n:Nat},(∀ k,k<n→0≤f k)→(∀ v,ib C v→ib C' v)→sumM f C n≤sumM f C' n
 | 0,_,_=>Int.le_refl _
 | n+1,h,hs=>by
  have h1:=qhc (n:=n) (fun k hk=>h k (by omega)) hs
  have h2:=h n (by omega)
  by_cases hb:ib C n
  ·rw [qbq hb,qbq (hs n hb)];omega
  ·by_cases hb':ib C' n
   ·rw [qaT hb,qbq hb'];omega
   ·rw [qaT hb,qaT hb'];exact h1
theorem qlf {f:Nat→Int}{C:Nat}{B:Int}(hB:0≤B):∀ {n:Nat},(∀ k,k<n→ib C k→f k≤B)→sumM f C n≤n*B
 | 0,_=>by simp [qld]
 | n+1,h=>by
  have h1:=qlf hB (n:=n) fun k hk=>h k (by omega)
  rw [Int.natCast_add,Int.add_mul]
  simp only [Int.natCast_one,Int.one_mul]
  by_cases hb:ib C n
  ·have:=h n (by omega) hb
   rw [qbq hb];omega
  ·rw [qaT hb];omega
def capL (f:Nat→Int) (l:List Int):Int:=l.foldl (fun a i=>min (a+f i.toNat) inf) 0
theorem qhd (f:Nat→Int) (l:List Int) (i:Int):capL f (l++[i])=min (capL f l+f i.toNat) inf:=by simp [capL]
theorem qep {f:Nat→Int}{C:Nat}:∀ {n:Nat},(∀ k,k<n→0≤f k)→capL f (bitsK C n)=min (sumM f C n) inf
 | 0,_=>rfl
 | n+1,h=>by
  have h1:=qep (C:=C) (n:=n) fun k hk=>h k (by omega)
  have h2:=h n (by omega)
  by_cases hb:ib C n
  ·rw [qja hb,qhd,h1,qbq hb,Int.toNat_natCast];omega
  ·rw [qg8 hb,qaT hb,h1]
theorem qnc {f:Nat→Int}{l:List Int}(h:∀ i∈l,0≤f i.toNat):0≤capL f l∧capL f l≤inf:=by
 have key:∀ (l:List Int) (a:Int),0≤a→a≤inf→(∀ i∈l,0≤f i.toNat)→0≤l.foldl (fun a i=>min (a+f i.toNat) inf) a∧l.foldl (fun a i=>min (a+f i.toNat) inf) a≤inf:=by
  intro l
  induction l with
  | nil=>intro a h0 h1 _;exact⟨h0,h1⟩
  | cons i l ih =>
   intro a h0 h1 hl
   have:=hl i List.mem_cons_self
   refine ih _ ?_ ?_ fun j hj=>hl j (List.mem_cons_of_mem _ hj)
   ·have e:inf=1125899906842624:=rfl
    show 0≤min (a+f i.toNat) inf
    omega
   ·show min (a+f i.toNat) inf≤inf
    omega
 exact key l 0 (Int.le_refl _) (by decide) h
def bestL (f:Nat→Int) (Cs:List (List Int)):Int:=Cs.foldl (fun b l=>max b (capL f l)) 0
theorem qdy (f:Nat→Int) (Cs:List (List Int)) (l:List Int):bestL f (Cs++[l])=max (bestL f Cs) (capL f l):=by simp [bestL]
theorem qnd {f:Nat→Int}{Cs:List (List Int)}:0≤bestL f Cs∧∀ l∈Cs,capL f l≤bestL f Cs:=by
 refine qaw (P:=fun Cs=>0≤bestL f Cs∧∀ l∈Cs,capL f l≤bestL f Cs) ⟨Int.le_refl _,fun l hl=>by simp at hl⟩ ?_ Cs
 intro L x ⟨h0,h1⟩
 rw [qdy]
 refine⟨by omega,fun l hl => ?_⟩
 rcases List.mem_append.1 hl with hl|hl
 ·have:=h1 l hl;omega
 ·rw [List.mem_singleton.1 hl];omega
theorem qlg {f:Nat→Int}{Cs:List (List Int)}:bestL f Cs=0∨∃ l∈Cs,bestL f Cs=capL f l:=by
 refine qaw (P:=fun Cs=>bestL f Cs=0∨∃ l∈Cs,bestL f Cs=capL f l) (.inl rfl) ?_ Cs
 intro L x ih
 rw [qdy]
 by_cases h:bestL f L≤capL f x
 ·exact .inr ⟨x,by simp,by omega⟩
 ·rcases ih with ih|⟨l,hl,e⟩
  ·exact .inl (by omega)
  ·exact .inr ⟨l,by simp [hl],by omega⟩
section
variable {n:Nat}{N:Nat→Nat}{Cs:List (List Int)}{f:Nat→Int}
theorem qo1 (hG:Gr n N) (hC:CliqL n N Cs) (hf:∀ k,k<n→0≤f k) {C:Nat}(h:CliqM n N C):min (sumM f C n) inf≤bestL f Cs:=by
 obtain⟨C',h1,h2⟩:=qjR hG _ C h (Nat.le_refl _)
 have h3:=(qnd (f:=f) (Cs:=Cs)).2 _ ((hC _).2 ⟨C',h1,rfl⟩)
 rw [qep hf] at h3
 have:=qhc hf h2
 omega
theorem qne (hC:CliqL n N Cs) (hf:∀ k,k<n→0≤f k):∃ C,CliqM n N C∧bestL f Cs=min (sumM f C n) inf:=by
 rcases qlg (f:=f) (Cs:=Cs) with h|⟨l,hl,e⟩
 ·refine⟨0,⟨fun v hv=>by simp [ib] at hv,fun u v hu=>by simp [ib] at hu⟩,?_⟩
  have:sumM f 0 n=0:=by
   have h1:=qle (C:=0) hf
   have h2:=qlf (f:=f) (C:=0) (B:=0) (Int.le_refl _) (n:=n) fun k _ hb=>by simp [ib] at hb
   omega
  rw [this,h];decide
 ·obtain⟨C,hm,rfl⟩:=(hC _).1 hl
  exact⟨C,⟨hm.bd,hm.clq⟩,by rw [e,qep hf]⟩
end
def affT (t:TTask) (op:Nat) (p:List Int):Prop:=∃ e∈(t.ops.getD op dOp).effs,e.var∈p
def addT (t:TTask) (a b:List Int):Prop:=∀ op,op<t.ops.length→¬(affT t op a∧affT t op b)
theorem qhe {t:TTask}{a b:List Int}(h:addT t a b):addT t b a:=fun op ho hh=>h op ho ⟨hh.2,hh.1⟩
structure CanC (t:TTask) (Ls Ds:List (List Int)) (N:Nat→Nat) (Cs:List (List Int)):Prop where
 good:GoodT t
 inv:∀ k,k<Ls.length→InV t.vars (Ls.getD k [])
 small:∀ k,k<Ls.length→cntL t.vars (Ls.getD k [])≤512
 len:Ls.length≤32
 dist:∀ k,k<Ls.length→DistOk (pEdges t (Ls.getD k [])) (costsT t) (GoalPK t (Ls.getD k [])) (cntL t.vars (Ls.getD k [])).toNat (Ds.getD k [])
 gr:Gr Ls.length N
 add:∀ u v,u<Ls.length→v<Ls.length→(ib (N u) v↔u≠v∧addT t (Ls.getD u []) (Ls.getD v []))
 cl:CliqL Ls.length N Cs
noncomputable def canV (t:TTask) (Ls Ds Cs:List (List Int)) (s:List Int):Int:=bestL (svalK t Ls Ds s) Cs
section
variable {t:TTask}{Ls Ds Cs:List (List Int)}{N:Nat→Nat}
theorem CanC.rng (h:CanC t Ls Ds N Cs) {s:List Int}(hs:StateOk t.vars s) {k:Nat}(hk:k<Ls.length):0≤svalK t Ls Ds s k∧svalK t Ls Ds s k≤inf:=qiF (h.inv k hk) (h.dist k hk) hs
end
end Go.Proofs.YtggdgcmjcahbbaaGreatDoor
