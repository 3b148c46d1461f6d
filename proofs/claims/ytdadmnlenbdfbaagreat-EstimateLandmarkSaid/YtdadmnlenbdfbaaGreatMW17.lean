/-
  Several texts as one: TSimp3, TSimp4, TOpt, TLv.
-/
import Derived.Test.YtdadmnlenbdfbaaGreatMTA
import Derived.Test.YtdadmnlenbdfbaaGreatMW16
import Derived.Test.YtdadmnlenbdfbaaGreatMW6
set_option linter.unusedSimpArgs false
set_option linter.unusedVariables false
/-
  The simplex method on lists of fractions: the run, and that it ends.
-/
namespace Go.Proofs.YtdadmnlenbdfbaaGreat
def fstP:Nat→List Frc→Int
 | _,[] => -1
 | i,f::l=>if 0<f.num then (i:Int) else fstP (i+1) l
def colS (S:SimS):Int:=fstP 0 S.goal
def GoS (m:Nat) (S:SimS):Prop:=0≤colS S∧(leavS S (colS S).toNat m).1=0∧0≤(leavS S (colS S).toNat m).2∧(pivS S (leavS S (colS S).toNat m).2.toNat (colS S).toNat).1=0
def nextS (m:Nat) (S:SimS):SimS:=(pivS S (leavS S (colS S).toNat m).2.toNat (colS S).toNat).2
def runS (m:Nat):Nat→SimS→Option (Int × SimS)
 | 0,_=>none
 | n+1,S =>
  if colS S<0 then some (0,S)
  else if (leavS S (colS S).toNat m).1≠0 then some ((leavS S (colS S).toNat m).1,S)
  else if (leavS S (colS S).toNat m).2<0 then some (3,S)
  else if (pivS S (leavS S (colS S).toNat m).2.toNat (colS S).toNat).1≠0 then some ((pivS S (leavS S (colS S).toNat m).2.toNat (colS S).toNat).1,S)
  else runS m n (nextS m S)
def iterS (m:Nat):Nat→SimS→SimS
 | 0,S=>S
 | n+1,S=>iterS m n (nextS m S)
theorem qen (m:Nat):∀ (n:Nat) (S:SimS),iterS m (n+1) S=nextS m (iterS m n S)
 | 0,_=>rfl
 | n+1,S=>qen m n (nextS m S)
theorem qjW:∀ {l:List Frc}{i:Nat},fstP i l<0∧(∀ j,j<l.length→¬0<(l.getD j dF).num)∨∃ k:Nat,fstP i l=((i+k:Nat):Int)∧k<l.length∧0<(l.getD k dF).num∧∀ j,j<k→¬0<(l.getD j dF).num
 | [],i=>Or.inl ⟨(by decide:(-1:Int)<0),fun j hj=>absurd hj (Nat.not_lt_zero _)⟩
 | f::l,i=>by
  unfold fstP
  by_cases h:0<f.num
  ·rw [if_pos h]
   exact Or.inr ⟨0,rfl,by simp,h,fun j hj=>absurd hj (Nat.not_lt_zero _)⟩
  ·rw [if_neg h]
   rcases qjW (l:=l) (i:=i+1) with ⟨h1,h2⟩|⟨k,h1,h2,h3,h4⟩
   ·refine Or.inl ⟨h1,fun j hj => ?_⟩
    cases j with
    | zero=>exact h
    | succ j=>simpa [List.getD_cons_succ] using h2 j (by simpa using hj)
   ·refine Or.inr ⟨k+1,by rw [h1];congr 1;omega,by simpa using h2,by simpa [List.getD_cons_succ] using h3,fun j hj => ?_⟩
    cases j with
    | zero=>exact h
    | succ j=>simpa [List.getD_cons_succ] using h4 j (by omega)
theorem qlK {N m:Nat}{S:SimS}(hS:SimOk N m S) (h:0≤colS S):(colS S).toNat<N∧0<(tabS S).c (colS S).toNat∧∀ j,j<(colS S).toNat→(tabS S).c j≤0:=by
 rcases qjW (l:=S.goal) (i:=0) with ⟨h1,_⟩|⟨k,h1,h2,h3,h4⟩
 ·exact absurd h (by unfold colS;omega)
 ·have e:(colS S).toNat=k:=by unfold colS;rw [h1];omega
  rw [e]
  have hg:=hS.gl
  refine⟨by omega,(qfi (hS.gp k (by omega))).1 h3,fun j hj => ?_⟩
  have h5:=h4 j hj
  have h6:¬0<valF (S.goal.getD j dF):=fun hh=>h5 ((qfi (hS.gp j (by omega))).2 hh)
  show valF (S.goal.getD j dF)≤0
  exact Rat.not_lt.1 h6
theorem qgT {N m:Nat}{S:SimS}(hS:SimOk N m S) (h:GoS m S):SimOk N m (nextS m S)∧BlaK N m (tabS S) (leavS S (colS S).toNat m).2.toNat (colS S).toNat∧tabS (nextS m S)=pivT (tabS S) (leavS S (colS S).toNat m).2.toNat (colS S).toNat:=by
 obtain⟨h1,h2,h3,h4⟩:=h
 obtain⟨c1,c2,c3⟩:=qlK hS h1
 obtain⟨l1,l2,l3⟩:=qjG (r:=(leavS S (colS S).toNat m).2) hS c1 (by rw [←h2]) h3
 obtain⟨p1,p2⟩:=qlt (S':=nextS m S) hS l1 c1 (by rw [←h4];rfl)
 exact⟨p1,⟨c1,c2,c3,l1,l2,l3⟩,p2⟩
theorem qjX {N m:Nat}{S:SimS}(hS:SimOk N m S):∀ {n:Nat},(∀ s,s<n→GoS m (iterS m s S))→SimOk N m (iterS m n S)
 | 0,_=>hS
 | n+1,h=>by
  rw [qen]
  exact (qgT (qjX hS (fun s hs=>h s (by omega))) (h n (by omega))).1
theorem qmJ {N m n:Nat}{S:SimS}(hS:SimOk N m S) (hT:TabOk N m (tabS S)) (h:∀ s,s<n→GoS m (iterS m s S)):Cyc N m n (fun s=>tabS (iterS m s S)) (fun s=>(leavS (iterS m s S) (colS (iterS m s S)).toNat m).2.toNat) (fun s=>(colS (iterS m s S)).toNat):=by
 refine⟨hT,fun s hs => ?_,fun s hs => ?_⟩
 ·exact (qgT (qjX hS (n:=s) fun s' hs'=>h s' (by omega)) (h s hs)).2.1
 ·show tabS (iterS m (s+1) S)=_
  rw [qen]
  exact (qgT (qjX hS (n:=s) fun s' hs'=>h s' (by omega)) (h s hs)).2.2
theorem qhQ {m:Nat}:∀ {n:Nat}{S:SimS},runS m n S=none→∀ s,s<n→GoS m (iterS m s S)
 | 0,_,_,s,hs=>absurd hs (Nat.not_lt_zero s)
 | n+1,S,h,s,hs=>by
  unfold runS at h
  split at h
  ·exact absurd h (by simp)
  rename_i h1
  split at h
  ·exact absurd h (by simp)
  rename_i h2
  split at h
  ·exact absurd h (by simp)
  rename_i h3
  split at h
  ·exact absurd h (by simp)
  rename_i h4
  cases s with
  | zero=>exact⟨Int.not_lt.1 h1,Decidable.not_not.1 h2,Int.not_lt.1 h3,Decidable.not_not.1 h4⟩
  | succ s=>exact qhQ h s (by omega)
theorem qk7 {N m:Nat}{S:SimS}(hS:SimOk N m S) (hT:TabOk N m (tabS S)):∃ x,runS m (N ^ m) S=some x:=by
 cases h:runS m (N ^ m) S with
 | some x=>exact⟨x,rfl⟩
 | none=>exact absurd (qmJ hS hT (qhQ h)).short (Nat.lt_irrefl _)
end Go.Proofs.YtdadmnlenbdfbaaGreat
/-
  The simplex method on lists of fractions: its first state, and the solution at the end.
-/
namespace Go.Proofs.YtdadmnlenbdfbaaGreat
def f0F:Frc:=⟨0,1⟩
def f1F:Frc:=⟨1,1⟩
theorem qhq:PrpF f0F:=by unfold f0F PrpF;decide
theorem qiV:PrpF f1F:=by unfold f1F PrpF;decide
theorem qlk:valF f0F=0:=by unfold valF f0F;simp;grind
theorem qmC:valF f1F=1:=by unfold valF f1F;simp;grind
def unitR (m i:Nat):List Frc:=(List.range m).map fun k=>if k=i then f1F else f0F
def begS (c:List Frc) (a:List (List Frc)) (b:List Frc):SimS :=
 ⟨(List.range a.length).map fun i=>a.getD i []++unitR a.length i,b,(List.range a.length).map fun (i:Nat)=>((c.length+i:Nat):Int),c++List.replicate a.length f0F,f0F⟩
structure SimPre (c:List Frc) (a:List (List Frc)) (b:List Frc):Prop where
 ab:a.length=b.length
 ac:∀ r∈a,r.length=c.length
 cp:∀ f∈c,PrpF f
 ap:∀ r∈a,∀ f∈r,PrpF f
 bp:∀ f∈b,PrpF f
 bn:∀ f∈b,0≤f.num
theorem qce {α:Type}{f:Nat→α}{n i:Nat}{d:α}(h:i<n):((List.range n).map f).getD i d=f i:=by
 rw [qak (by simpa using h),List.getElem_map,List.getElem_range]
theorem qe6 {α:Type}{l l':List α}{i:Nat}{d:α}:(l++l').getD i d=if i<l.length then l.getD i d else l'.getD (i-l.length) d:=by
 simp only [List.getD]
 split
 ·rename_i h;rw [List.getElem?_append_left h]
 ·rename_i h;rw [List.getElem?_append_right (by omega)]
theorem qmD {f:Frc}(h:PrpF f) (hn:0≤f.num):0≤valF f:=by
 rcases Int.lt_or_eq_of_le hn with h1|h1
 ·exact Rat.le_of_lt ((qfi h).1 h1)
 ·unfold valF;rw [←h1];simp;grind
theorem qlY {c:List Frc}{a:List (List Frc)}{b:List Frc}{i:Nat}(hi:i<a.length):(begS c a b).rows.getD i []=a.getD i []++unitR a.length i:=qce hi
theorem qll {c:List Frc}{a:List (List Frc)}{b:List Frc}(h:SimPre c a b) {i j:Nat}(hi:i<a.length):((begS c a b).rows.getD i []).getD j dF=if j<c.length then (a.getD i []).getD j dF else (unitR a.length i).getD (j-c.length) dF:=by
 rw [qlY hi,qe6]
 have:(a.getD i []).length=c.length:=h.ac _ (by rw [qak hi];exact List.getElem_mem _)
 rw [this]
theorem qiW {m i j:Nat}(hj:j<m):(unitR m i).getD j dF=if j=i then f1F else f0F:=qce hj
theorem qlm {c:List Frc}{a:List (List Frc)}{b:List Frc}(h:SimPre c a b):SimOk (c.length+a.length) a.length (begS c a b):=by
 have hal:∀ i,i<a.length→a.getD i []∈a:=fun i hi=>by rw [qak hi];exact List.getElem_mem _
 refine⟨by simp [begS],fun l hl => ?_,h.ab.symm,by simp [begS],by simp [begS],fun i j hi hj => ?_,fun i hi => ?_,fun j hj => ?_,qhq,fun i hi => ?_⟩
 ·obtain⟨i,hi,rfl⟩:=List.mem_map.1 hl
  have hi:=List.mem_range.1 hi
  rw [List.length_append,h.ac _ (hal i hi)]
  simp [unitR]
 ·rw [qll h hi]
  split
  ·rename_i hj'
   have hlen:=h.ac _ (hal i hi)
   have hj2:j<(a.getD i []).length:=by omega
   exact h.ap _ (hal i hi) _ (by rw [qak hj2];exact List.getElem_mem _)
  ·rw [qiW (by omega)]
   split
   ·exact qiV
   ·exact qhq
 ·have:i<b.length:=by have:=h.ab;omega
  exact h.bp _ (by show b.getD i dF∈b;rw [qak this];exact List.getElem_mem _)
 ·show PrpF ((c++List.replicate a.length f0F).getD j dF)
  rw [qe6]
  split
  ·rename_i hj'
   exact h.cp _ (by rw [qak hj'];exact List.getElem_mem _)
  ·rw [qak (by simp;omega),List.getElem_replicate]
   exact qhq
 ·show 0≤((List.range a.length).map fun (i:Nat)=>((c.length+i:Nat):Int)).getD i 0
  rw [qce hi]
  exact Int.natCast_nonneg _
theorem beg_B {c:List Frc}{a:List (List Frc)}{b:List Frc}{i:Nat}(hi:i<a.length):(tabS (begS c a b)).B i=c.length+i:=by
 show (((List.range a.length).map fun (i:Nat)=>((c.length+i:Nat):Int)).getD i 0).toNat=_
 rw [qce hi,Int.toNat_natCast]
theorem qfI {c:List Frc}{a:List (List Frc)}{b:List Frc}(h:SimPre c a b) {i j:Nat}(hi:i<a.length) (hj:j<a.length):(tabS (begS c a b)).A i (c.length+j)=if j=i then 1 else 0:=by
 show valF (((begS c a b).rows.getD i []).getD (c.length+j) dF)=_
 rw [qll h hi,if_neg (by omega),qiW (by omega)]
 rw [show c.length+j-c.length=j by omega]
 split
 ·exact qmC
 ·exact qlk
theorem qlZ {c:List Frc}{a:List (List Frc)}{b:List Frc}(h:SimPre c a b):TabOk (c.length+a.length) a.length (tabS (begS c a b)):=by
 refine⟨fun i hi=>by rw [beg_B hi];omega,fun i hi=>by rw [beg_B hi,qfI h hi hi,if_pos rfl],fun i k hi hk hne=>by rw [beg_B hk,qfI h hi hk,if_neg (fun e=>hne e.symm)],fun i hi => ?_,fun i hi => ?_⟩
 ·rw [beg_B hi]
  show valF ((c++List.replicate a.length f0F).getD (c.length+i) dF)=0
  rw [qe6,if_neg (by omega),qak (by simp;omega),List.getElem_replicate]
  exact qlk
 ·show 0≤valF (b.getD i dF)
  have hb:b.getD i dF∈b:=by rw [qak (by have:=h.ab;omega)];exact List.getElem_mem _
  exact qmD (h.bp _ hb) (h.bn _ hb)
def solS (n:Nat):List Int→List Frc→List Frc→List Frc
 | k::basic,f::right,x=>solS n basic right (if k<(n:Int) then x.set k.toNat f else x)
 | [],_,x=>x
 | _::_,[],x=>x
end Go.Proofs.YtdadmnlenbdfbaaGreat
/-
  The best division of costs: the rows of the program, and that its solution divides.
-/
namespace Go.Proofs.YtdadmnlenbdfbaaGreat
def inO (C:List (List Int)) (op:Nat):List Bool:=C.map fun c=>decide ((op:Int)∈c)
def allR (C:List (List Int)):Nat→List Int→List (List Bool × Int)
 | _,[]=>[]
 | i,c::l=>if true∈inO C i then (inO C i,c)::allR C (i+1) l else allR C (i+1) l
def betR (x:List Bool × Int) (i:Nat):Nat→List (List Bool × Int)→Bool
 | _,[]=>false
 | j,y::l=>decide (i≠j∧x.1=y.1∧(y.2<x.2∨(y.2=x.2∧j<i))) || betR x i (j+1) l
def keptR (R:List (List Bool × Int)):Nat→List (List Bool × Int)→List (List Bool × Int)
 | _,[]=>[]
 | i,x::l=>if betR x i 0 R=true then keptR R (i+1) l else x::keptR R (i+1) l
def rowsO (costs:List Int) (C:List (List Int)):List (List Bool × Int):=keptR (allR C 0 costs) 0 (allR C 0 costs)
theorem qhd {C:List (List Int)}:∀ {l:List Int}{i:Nat}{x:List Bool × Int},x∈allR C i l↔∃ j,j<l.length∧true∈inO C (i+j)∧x=(inO C (i+j),l.getD j 0)
 | [],i,x=>by simp [allR]
 | c::l,i,x=>by
  have ih:=qhd (C:=C) (l:=l) (i:=i+1) (x:=x)
  have h0:∀ P:Nat→Prop,(∃ j,j<(c::l).length∧P j)↔(P 0∨∃ j,j<l.length∧P (j+1)):=fun P=>by
   constructor
   ·rintro⟨j,hj,hp⟩
    cases j with
    | zero=>exact Or.inl hp
    | succ j=>exact Or.inr ⟨j,by simpa using hj,hp⟩
   ·rintro (hp|⟨j,hj,hp⟩)
    ·exact⟨0,by simp,hp⟩
    ·exact⟨j+1,by simpa using hj,hp⟩
  rw [h0 fun j=>true∈inO C (i+j)∧x=(inO C (i+j),(c::l).getD j 0)]
  unfold allR
  have e1:∀ j,i+1+j=i+(j+1):=fun j=>by omega
  simp only [e1] at ih
  by_cases h:true∈inO C i
  ·rw [if_pos h,List.mem_cons,ih]
   simp only [Nat.add_zero,h,true_and,List.getD_cons_zero,List.getD_cons_succ]
  ·rw [if_neg h,ih]
   simp only [Nat.add_zero,h,false_and,false_or,List.getD_cons_succ]
theorem qkg {x:List Bool × Int}{i:Nat}:∀ {l:List (List Bool × Int)}{j:Nat},betR x i j l=true↔∃ q,q<l.length∧i≠j+q∧x.1=(l.getD q ([],0)).1∧((l.getD q ([],0)).2<x.2∨((l.getD q ([],0)).2=x.2∧j+q<i))
 | [],j=>by simp [betR]
 | y::l,j=>by
  have ih:=qkg (x:=x) (i:=i) (l:=l) (j:=j+1)
  unfold betR
  rw [Bool.or_eq_true,ih,decide_eq_true_iff]
  constructor
  ·rintro (h|⟨q,h1,h2,h3,h4⟩)
   ·exact⟨0,by simp,h⟩
   ·exact⟨q+1,by simpa using h1,by omega,h3,by rw [List.getD_cons_succ];rw [show j+(q+1)=j+1+q by omega];exact h4⟩
  ·rintro⟨q,h1,h2,h3,h4⟩
   cases q with
   | zero=>exact Or.inl ⟨h2,h3,h4⟩
   | succ q =>
    rw [List.getD_cons_succ] at h3 h4
    exact Or.inr ⟨q,by simpa using h1,by omega,h3,by rw [show j+1+q=j+(q+1) by omega];exact h4⟩
theorem qfC {R:List (List Bool × Int)}:∀ {l:List (List Bool × Int)}{i:Nat}{x:List Bool × Int},x∈keptR R i l↔∃ j,j<l.length∧betR (l.getD j ([],0)) (i+j) 0 R=false∧x=l.getD j ([],0)
 | [],i,x=>by simp [keptR]
 | y::l,i,x=>by
  have ih:=qfC (R:=R) (l:=l) (i:=i+1) (x:=x)
  unfold keptR
  have h1:x∈(if betR y i 0 R=true then keptR R (i+1) l else y::keptR R (i+1) l)↔(betR y i 0 R=false∧x=y)∨x∈keptR R (i+1) l:=by
   by_cases h:betR y i 0 R=true
   ·rw [if_pos h];simp [h]
   ·rw [if_neg h,List.mem_cons];simp [h]
  rw [h1,ih]
  constructor
  ·rintro (⟨h2,h3⟩|⟨j,h2,h3,h4⟩)
   ·exact⟨0,by simp,h2,h3⟩
   ·exact⟨j+1,by simpa using h2,by rw [List.getD_cons_succ,show i+(j+1)=i+1+j by omega];exact h3,h4⟩
  ·rintro⟨j,h2,h3,h4⟩
   cases j with
   | zero=>exact Or.inl ⟨h3,h4⟩
   | succ j=>exact Or.inr ⟨j,by simpa using h2,by rw [show i+1+j=i+(j+1) by omega];exact h3,h4⟩
theorem qiH {R:List (List Bool × Int)}{x:List Bool × Int}(h:x∈keptR R 0 R):x∈R:=by
 obtain⟨j,h1,_,rfl⟩:=qfC.1 h
 exact qan _ h1
def mtxO (R:List (List Bool × Int)):List (List Frc):=R.map fun x=>x.1.map fun b=>if b=true then f1F else f0F
def rgtO (R:List (List Bool × Int)):List Frc:=R.map fun x=>⟨x.2,1⟩
def objO (C:List (List Int)):List Frc:=List.replicate C.length f1F
theorem qlM {x:Int}(h:0≤x∧x≤1099511627776):PrpF ⟨x,1⟩:=⟨by show (1:Int)≤1;omega,by show (1:Int)≤1048576;omega,by show -1099511627776≤x;omega,h.2,by show Int.gcd x 1=1;simp⟩
theorem qcC {costs:List Int}{C:List (List Int)}(hc:∀ x∈costs,0≤x∧x≤1048576) {x:List Bool × Int}(h:x∈rowsO costs C):x.1.length=C.length∧0≤x.2∧x.2≤1048576:=by
 obtain⟨j,h1,_,rfl⟩:=qhd.1 (qiH h)
 have:=hc _ (qan 0 h1)
 exact⟨by simp [inO],this.1,this.2⟩
theorem qlN {costs:List Int}{C:List (List Int)}(hc:∀ x∈costs,0≤x∧x≤1048576):SimPre (objO C) (mtxO (rowsO costs C)) (rgtO (rowsO costs C)):=by
 refine⟨by simp [mtxO,rgtO],fun r hr => ?_,fun f hf => ?_,fun r hr f hf => ?_,fun f hf => ?_,fun f hf => ?_⟩
 ·obtain⟨x,hx,rfl⟩:=List.mem_map.1 hr
  rw [List.length_map,(qcC hc hx).1];simp [objO]
 ·rw [(List.mem_replicate.1 hf).2];exact qiV
 ·obtain⟨x,_,rfl⟩:=List.mem_map.1 hr
  obtain⟨b,_,rfl⟩:=List.mem_map.1 hf
  split
  ·exact qiV
  ·exact qhq
 ·obtain⟨x,hx,rfl⟩:=List.mem_map.1 hf
  have:=qcC hc hx
  exact qlM ⟨this.2.1,by omega⟩
 ·obtain⟨x,hx,rfl⟩:=List.mem_map.1 hf
  exact (qcC hc hx).2.1
end Go.Proofs.YtdadmnlenbdfbaaGreat
/-
  The landmark heuristic as a function: landmarks, achievers, cuts, divided costs, value.
-/
namespace Go.Proofs.YtdadmnlenbdfbaaGreat
open Go.Sl
def allV (n v:Nat):List Fact:=(List.range n).map fun (x:Nat)=>⟨(v:Int),(x:Int)⟩
def allF (vars:List Int):List Fact:=(List.range vars.length).flatMap fun v=>allV (vars.getD v tInt.dflt).toNat v
def RchG (t:TTask) (s:List Int) (w:Fact):Prop:=∀ g∈t.goal,Rch t s w g
open Classical in
noncomputable def lmB (t:TTask) (s:List Int) (f:Fact):Bool:=decide (s.getD f.var.toNat tInt.dflt≠f.val∧¬RchG t s f)
noncomputable def factsF (t:TTask) (s:List Int):List Fact:=(allF t.vars).filter (lmB t s)
open Classical in
noncomputable def acB (t:TTask) (s:List Int) (f:Fact) (u:LUn):Bool:=decide (u.makes=f∧∀ n∈u.needs,Rch t s f n)
noncomputable def achF (t:TTask) (s:List Int) (f:Fact):List Int:=compL (((unF t).filter (acB t s f)).map fun u=>(u.op:Int))
noncomputable def cutsF (t:TTask) (s:List Int):List Fact→List (List Int)→List (List Int)
 | [],out=>out
 | f::l,out=>if achF t s f∈out then cutsF t s l out else cutsF t s l (out++[achF t s f])
def okOp (n:Nat) (c:List Int) (i:Nat):Prop:=0≤c.getD i tInt.dflt∧c.getD i tInt.dflt<n∧(0<i→c.getD (i-1) tInt.dflt<c.getD i tInt.dflt)
instance okOpD (n:Nat) (c:List Int) (i:Nat):Decidable (okOp n c i):=by unfold okOp;infer_instance
def okOps (n:Nat) (c:List Int):Prop:=∀ i,i<c.length→okOp n c i
instance okOpsD (n:Nat) (c:List Int):Decidable (okOps n c):=by unfold okOps;infer_instance
def chkL (n:Nat):List (List Int)→Int
 | []=>0
 | c::C=>if c=[] then 3 else if okOps n c then chkL n C else 2
def chkC (n:Nat) (C:List (List Int)):Int:=if 24<C.length then 5 else chkL n C
theorem qjf {n:Nat}:∀ {C:List (List Int)},chkL n C=0→∀ c∈C,c≠[]∧okOps n c
 | [],_,c,hc=>absurd hc List.not_mem_nil
 | d::C,h,c,hc=>by
  unfold chkL at h
  split at h
  ·exact absurd h (by decide)
  rename_i h1
  split at h
  ·rename_i h2
   rcases List.mem_cons.1 hc with rfl|hc
   ·exact⟨h1,h2⟩
   ·exact qjf h c hc
  ·exact absurd h (by decide)
theorem qgC {n:Nat}{C:List (List Int)}(h:chkC n C=0):C.length≤24∧∀ c∈C,c≠[]∧okOps n c:=by
 unfold chkC at h
 split at h
 ·exact absurd h (by decide)
 ·rename_i h1
  exact⟨by omega,qjf h⟩
theorem qfM {n:Nat}{c:List Int}(h:okOps n c):∀ i j,i<j→j<c.length→c.getD i tInt.dflt<c.getD j tInt.dflt:=by
 intro i j hij
 induction j with
 | zero=>exact absurd hij (Nat.not_lt_zero _)
 | succ j ih =>
  intro hj
  have h1:=(h (j+1) hj).2.2 (Nat.succ_pos _)
  rw [Nat.add_sub_cancel] at h1
  by_cases e:i=j
  ·rw [e];exact h1
  ·have:=ih (by omega) (by omega)
   omega
def whF (x:Int):Frc:=⟨x,1⟩
def mnyU (n:Nat) (C:List (List Int)):List Int:=(List.range n).map fun op=>((manyO C op:Nat):Int)
def leaU (costs many:List Int):Nat→Frc→List Int→Int × Frc
 | _,least,[]=>(0,least)
 | i,least,op::l =>
  if (newF (costs.getD op.toNat tInt.dflt) (many.getD op.toNat tInt.dflt)).1=0 then
   leaU costs many (i+1) (if i=0∨cmpF (newF (costs.getD op.toNat tInt.dflt) (many.getD op.toNat tInt.dflt)).2 least<0 then (newF (costs.getD op.toNat tInt.dflt) (many.getD op.toNat tInt.dflt)).2 else least) l
  else ((newF (costs.getD op.toNat tInt.dflt) (many.getD op.toNat tInt.dflt)).1,least)
def uniA (costs many:List Int):List Frc→List (List Int)→Int × List Frc
 | out,[]=>(0,out)
 | out,c::C=>if (leaU costs many 0 dF c).1=0 then uniA costs many (out++[(leaU costs many 0 dF c).2]) C else ((leaU costs many 0 dF c).1,[])
def solV (c:List Frc) (a:List (List Frc)) (b:List Frc):Int × List Frc :=
 if 24<a.length then (5,[]) else
 match runS a.length ((c.length+a.length) ^ a.length) (begS c a b) with
 | some (x,S)=>if x=0 then (0,solS c.length S.basic S.right (List.replicate c.length f0F)) else (x,[])
 | none=>(0,[])
def valsV (kind:Int) (costs:List Int) (C:List (List Int)):Int × List Frc :=
 if chkC costs.length C=0 then
  (if kind=1 then (0,(gdyV costs C).map whF)
  else if kind=2 then uniA costs (mnyU costs.length C) [] C
  else solV (objO C) (mtxO (rowsO costs C)) (rgtO (rowsO costs C)))
 else (chkC costs.length C,[])
def vluV (l:List Frc):Int × Int:=if (sumF ⟨0,1⟩ l).1=0 then (0,ceilF (sumF ⟨0,1⟩ l).2) else ((sumF ⟨0,1⟩ l).1,0)
def ofV (kind:Int) (costs:List Int) (C:List (List Int)):Int × Int:=if (valsV kind costs C).1=0 then vluV (valsV kind costs C).2 else ((valsV kind costs C).1,0)
open Classical in
noncomputable def lmkE (t:TTask) (s:List Int) (kind:Int):Int × Int :=
 if RchG t s ⟨-1,-1⟩ then
  (if (ofV kind (costsT t) ((cutsF t s (factsF t s) []).take 24)).1=5 then ofV 1 (costsT t) ((cutsF t s (factsF t s) []).take 24) else ofV kind (costsT t) ((cutsF t s (factsF t s) []).take 24))
 else (0,inf)
noncomputable def lmkH (t:TTask) (kind:Int) (s:List Int):Int:=if (lmkE t s kind).1=0 then (lmkE t s kind).2 else 0
end Go.Proofs.YtdadmnlenbdfbaaGreat
