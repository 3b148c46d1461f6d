/- Several texts. -/
import Derived.Test.YtmapkjoefdgjfaaGreatDoorMW10D
set_option linter.unusedSimpArgs false
set_option linter.unusedVariables false
set_option linter.defProp false
set_option maxRecDepth 8000
set_option maxHeartbeats 16000000
open List Nat
namespace Go.Proofs.YtmapkjoefdgjfaaGreatDoor
open Go.Sl
variable {α:Type}{i m:Nat}{x k:Int}{S:J}
section
open Go.Sl Go
attribute [local irreducible] vc opsW opsD opV opW PureV ReadV Thn Blk
def AI (t:aa)(L:J)(i:Nat):Prop:=∃ e∈(t.Z.getD i bf).aJ,e.var∈L
instance (t:aa) (L:J) (i:Nat):Decidable (AI t L i):=by unfold AI;infer_instance
end
section
open Go.Sl Go
def ZC [DecidableEq α]{l:List α}:∀ {m:List α},l.Nodup->(∀ x∈l,x∈m)->l.length<=m.length:=by
 induction l with
 | nil=>intro m _ _;simp
 | cons x l h =>
  intro m a f;rw[vk]at a;have hx:=f x sm;have h1:=h (m:=m.erase x) a.2 fun y g=>by
   have b:y≠x:=fun e=>a.1 (by rw[<-e];exact g);exact(Gm b).2 (f y (by simp[g]))
  rw[DB hx]at h1;have:=Gn hx;simp only[length_cons];omega
def rH (g:α->Int)(l:List α)(n:Nat):Nat:=(l.filter fun s=>decide (0<=g s/\g s<n)).length
def Ek (g:α->Int)(l:List α)(n:Nat):Nat:=(l.filter fun s=>decide (g s=n)).length
def RF {α:Type}(g:α->Int)(n:Nat):∀ l:List α,rH g l (n+1)=rH g l n+Ek g l n
 | []=>rfl
 | x::l=>by
  have a:=RF g n l;simp only[rH,Ek,we]at a ⊢;by_cases h1:0<=g x/\g x<(n:Int)
  ·rw[aP (by simp;omega),aP (by simpa using h1),aH (by simp;omega)]
   simp only[length_cons];omega
  by_cases b:g x=(n:Int)
  ·rw[aP (by simp;omega),aH (by simpa using h1),aP (by simpa using b)]
   simp only[length_cons];omega
  rw[aH (by simp;omega),aH (by simpa using h1),aH (by simpa using b)];exact a
def ZD (t:aa)(p:J)(a:Nat)(op:Nat):(qd t p a op).length<=Ek (bU t.vars p) (aF t.vars) a:=by
 have h1:=ZC (l:=qd t p a op) (m:=((aF t.vars).filter fun s=>decide (bU t.vars p s=(a:Int))).map fun s=>bU t.vars p (cd t s op)) ((K3 _ _).imp fun h e=>by omega) fun b f=>by
  obtain⟨_,s,g,j,_,f⟩:=Ak.1 f;exact iQ.2 ⟨s,rP.2 ⟨Hz.2 g,by simpa using j⟩,f⟩
 simpa [Ek] using h1
def RG (t:aa)(p:J)(a:Nat):∀ j,(kh t p a j).length<=j*Ek (bU t.vars p) (aF t.vars) a
 | 0=>by simp[kh]
 | j+1=>by
  have h1:=RG t p a j;have b:=ZD t p a j;rw[HB,length_append,K4,yp];omega
def RH (t:aa)(p:J):∀ k,(jl t p k).length<=t.Z.length*rH (bU t.vars p) (aF t.vars) k
 | 0=>by simp[jl]
 | k+1=>by
  have h1:=RH t p k;have a:=RG t p k t.Z.length;rw[HC,length_append,RF,Nat.mul_add];omega
def ZE (t:aa)(p:J):(bM t p).length<=t.Z.length*(aF t.vars).length :=
 oD (RH t p _) (mul_le_mul_left _ (ux _ _))
def K5 {t:aa}{p:J}(h:fA t)(a:jr t.vars p):cO t p=0/\lS t p=0:=by
 have b:=IX.2 ⟨h.da,a.pW⟩;have h1:=HA h.da.pos a;have f:=h.many;have g:=ZE t p;have e:(aF t.vars).length<=512:=by rw[wL h.da.pos];omega
 have j:t.Z.length*(aF t.vars).length<=20*512:=xQ h.Z e;refine⟨?_,b⟩;rw[IW b,j8,aH U,aH (Fa h.da.pos U),aH U]
def FP (t:aa)(L:J):kw t L 0=dV t L:=aP rfl
def NT (t:aa)(L:J)(cv ev gv:Value):cK (dV t L) cv ev gv=.agg #[E (bp t.vars L),E (bU t.vars L t.cE),cv,ev,gv]:=rfl
section
variable {t:aa}{p q:J}
end
def getD_set_ne {l:J}{j:Nat}{v:Int}(h:i≠j):(l.set i v).getD j O.dflt=l.getD j O.dflt:=by
 simp only[iB];rw[tn h]
section
variable {E_:List cS}{c o:J}{G:Int->Prop}{n:Nat}{D d:J}{C:Int}
inductive jq (E_:List cS) (c:J) (G:Int->Prop) (S:J):Int->Int->Prop
 | aG {a:Int}:a∈S->G a->jq E_ c G S a 0
 | step {e:cS}{k:Int}:e∈E_->e.ba∈S->jq E_ c G S e.dst k->jq E_ c G S e.ba (gG c e+k)
def ui (a:Int)(S:J):J:=S.filter fun x=>decide (x≠a)
def K6 {a:Int}:x∈ui a S↔x∈S/\x≠a:=by simp[ui]
def ZF {a:Int}(h:a∈S):(ui a S).length<S.length:=by
 unfold ui;rw[length_filter_lt_length_iff_exists];exact⟨a,h,sm⟩
def ZG (l:nD E_ c n)(a:Int)(h:jq E_ c G S x k) :
  jq E_ c G (ui a S) x k\/G a\/∃ e g,e∈E_/\e.ba=a/\jq E_ c G (ui a S) e.dst g/\gG c e+g<=k:=by
 induction h with
 | @aG b r I =>
  by_cases e:b=a
  ·subst e;exact .inr (.inl I)
  exact .inl (.aG (K6.2 ⟨r,e⟩) I)
 | @step e k he u _ f =>
  have A:=(l.gG he).1;rcases f with f|f|⟨v,g,h1,y,z,B⟩
  ·by_cases j:e.ba=a
   ·exact .inr (.inr ⟨e,k,he,j,f,du _⟩)
   exact .inl (.step he (K6.2 ⟨u,j⟩) f)
  ·exact .inr (.inl f)
  exact .inr (.inr ⟨v,g,h1,y,z,U⟩)
def jq.zj (h:jq E_ c G S x k):x∈S/\ki E_ c G x k:=by
 induction h with
 | aG h I=>exact⟨h,.aG I⟩
 | step he a _ b=>exact⟨a,.step he b.2⟩
def ki.B0 (b:nD E_ c n)(h:ki E_ c G x k):0<=x->x<n->jq E_ c G (oO (n:Int)) x k:=by
 induction h with
 | aG I=>intro a h1;exact .aG (K7.2 ⟨a,h1⟩) I
 | step he _ e=>intro a h1;have:=b.dst _ he;exact .step he (K7.2 ⟨a,h1⟩) (e this.1 this.2)
def RJ (a:nD E_ c n)(f:0<=C)(g:∀ x∈c,x<=C):∀ (m:Nat) (S:J),S.length<=m->∀ x k,jq E_ c G S x k->∃ b,b<=k/\b<=m*C/\ki E_ c G x b
 | 0,S,j,x,k,h=>by
  have:=h.zj.1;have:S=[]:=nY U
  subst this;simp at *
 | m+1,S,j,x,k,h=>by
  have hx:=h.zj.1;have hk:=h.zj.2.B1 a;have hm:0<=(m:Int)*C:=tj U f;have u:((m+1:Nat):Int)*C=(m:Int)*C+C:=by rw[B7,zH];simp
  rcases ZG a x h with h1|h1|⟨e,b,he,l,Y,eH⟩
  ·exact absurd rfl (K6.1 h1.zj.1).2
  ·exact⟨0,hk,U,.aG h1⟩
  obtain⟨r,v,a2,a3⟩:=RJ a f g m (ui x S) (by have:=ZF hx;omega) _ _ Y;have y:gG c e<=C:=g _ (cD O.dflt (by have:=a.cG e he;omega));exact⟨gG c e+r,U,U,l ▸ .step he a3⟩
def cH.AJ (a:nD E_ c n)(b:0<=C)(e:∀ x∈c,x<=C)(h:cH E_ c G n D)(hi:i<n)(Y:ki E_ c G i k):dg D i<=n*C:=by
 obtain⟨j,_,f,g⟩:=RJ a b e n (oO (n:Int)) (by simp[oO]) _ _ (Y.B0 a U U);exact rO (h.low i hi _ g) f
def cH.ow (a:nD E_ c n)(b:0<=C)(e:∀ x∈c,x<=C)(g:n*C<bD)(h:cH E_ c G n D)(hi:i<n):dg D i<bD↔∃ k,ki E_ c G i k :=
 ⟨fun f=>⟨_,h.uL i hi f⟩,fun⟨_,Y⟩=>by have:=h.AJ a b e hi Y;omega⟩
def cH.pA (a:nD E_ c n)(b:0<=C)(e:∀ x∈c,x<=C)(h:cH E_ c G n D)(hi:i<n)(f:dg D i<bD):dg D i<=n*C:=h.AJ a b e hi (h.uL i hi f)
def kS (D l:J)(e:cS):J:=if dg D e.ba<bD/\dg D e.dst<bD then l.set e.cG.toNat (if dg D e.ba-dg D e.dst>gG l e then dg D e.ba-dg D e.dst else gG l e) else l
def mP (E_:List cS)(D:J)(m k:Nat):J:=(E_.take k).foldl (kS D) (replicate m 0)
def nL (E_:List cS)(D:J)(m:Nat):J:=mP E_ D m E_.length
def UT (E_:List cS)(D:J)(m:Nat):mP E_ D m 0=replicate m 0:=rfl
def IV {k:Nat}(hk:k<E_.length):mP E_ D m (k+1)=kS D (mP E_ D m k) (E_.getD k aM.dflt):=by
 rw[mP,eD aM.dflt hk,tf];rfl
def ZH (D l:J)(e:cS):(kS D l e).length=l.length:=by unfold kS;split<;>simp
def IU {m:Nat}:∀ k,k<=E_.length->(mP E_ D m k).length=m
 | 0,_=>by simp[mP]
 | k+1,h=>by rw[IV U,ZH,IU k U]
def ZI:(nL E_ D m).length=m:=IU _ (cz _)
structure qG (E_:List cS) (D:J) (m:Nat) (l:J):Prop where
 len:l.length=m
 nn:∀ i:Nat,i<m->0<=l.getD i O.dflt
 low:∀ e∈E_,dg D e.ba<bD->dg D e.dst<bD->dg D e.ba-dg D e.dst<=gG l e
 uL:∀ i:Nat,i<m->l.getD i O.dflt=0\/∃ e∈E_,e.cG=i/\dg D e.ba<bD/\dg D e.dst<bD/\l.getD i O.dflt=dg D e.ba-dg D e.dst
def RK {m:Nat}(u:∀ e∈E_,0<=e.cG/\e.cG<m):∀ k,k<=E_.length->qG (E_.take k) D m (mP E_ D m k)
 | 0,_=>⟨by simp[mP],fun i r=>by simp[mP,List.getD,r],fun e he=>by simp at he,fun i r=>.inl (by simp[mP,List.getD,r])⟩
 | k+1,h=>by
  have hk:k<E_.length:=U;obtain⟨h1,H,K,A⟩:=RK u k U;have he:=cD aM.dflt hk;have L:=u _ he;rw[IV hk,eD aM.dflt hk];generalize mP E_ D m k=l at h1 H K A;generalize E_.getD k aM.dflt=e at he L;have I:∀ (i:Int) (v:Int),0<=i->(l.set e.cG.toNat v).getD i.toNat O.dflt=if i=e.cG then v else l.getD i.toNat O.dflt:=fun i v r=>B6 r L.1 U
  unfold kS;split
  ·rename_i B
   have y:∀ i:Int,0<=i->l.getD i.toNat O.dflt<=(l.set e.cG.toNat (if dg D e.ba-dg D e.dst>gG l e then dg D e.ba-dg D e.dst else gG l e)).getD i.toNat O.dflt:=by
    intro i r;rw[I i _ r];split
    ·rename_i F;subst F;show gG l e<=_;split<;>omega
    exact du _
   refine⟨by rw[gS];exact h1,fun i r=>?_,fun z g a b=>?_,fun i r=>?_⟩
   ·have:=y i U;rw[gY]at this;have:=H i r;omega
   ·rcases gK.1 g with g|g
    ·have N:=u z (pU g)
     exact rO (K z g a b) (y z.cG N.1)
    rw[dp.1 g];show _<=(l.set e.cG.toNat _).getD e.cG.toNat O.dflt;rw[I _ _ L.1,aP rfl];split<;>omega
   have hgi:=I i (if dg D e.ba-dg D e.dst>gG l e then dg D e.ba-dg D e.dst else gG l e) U;rw[gY]at hgi;rw[hgi];split
   ·rename_i F
    split
    ·exact .inr ⟨e,sm,F.symm,B.1,B.2,rfl⟩
    have N:gG l e=l.getD i O.dflt:=by show l.getD e.cG.toNat O.dflt=_;rw[<-F];rfl
    rw[N];rcases A i r with h|⟨z,a,b⟩
    ·exact .inl h
    exact .inr ⟨z,yA _ a,b⟩
   rcases A i r with h|⟨z,a,b⟩
   ·exact .inl h
   exact .inr ⟨z,yA _ a,b⟩
  rename_i B;refine⟨h1,H,fun z g a b=>?_,fun i r=>?_⟩
  ·rcases gK.1 g with g|g
   ·exact K z g a b
   rw[dp.1 g]at a b;exact absurd ⟨a,b⟩ B
  rcases A i r with h|⟨z,a,b⟩
  ·exact .inl h
  exact .inr ⟨z,yA _ a,b⟩
def NZ (a:∀ e∈E_,0<=e.cG/\e.cG<m):qG E_ D m (nL E_ D m):=by
 have:=RK (D:=D) a E_.length (cz _)
 rwa[lL]at this
def qG.le {l:J}(a:nD E_ c n)(f:cH E_ c G n D)(b:qG E_ D c.length l)(hi:i<c.length):0<=l.getD i O.dflt/\l.getD i O.dflt<=c.getD i O.dflt:=by
 refine⟨b.nn i hi,?_⟩;rcases b.uL i hi with h|⟨e,he,g,h1,j,r⟩
 ·rw[h];exact(a.aO _ (cD _ hi)).1
 rw[r];have:=f.ER a he j;have u:gG c e=c.getD i O.dflt:=by show c.getD e.cG.toNat O.dflt=_;rw[g];rfl
 omega
end
def RL {t:aa}{L c D:J}(a:jr t.vars L)(h:cH (bM t L) c (fx t L) (bp t.vars L).toNat D){s:J}(b:ab t.vars s)(f:bZ s t.aG):dg D (bU t.vars L s)=0:=by
 have e:=oz b a.mem;have:=h.aG (i:=(bU t.vars L s).toNat) U (by rw[fZ e.1];exact ZB a b f)
 rwa[fZ e.1]at this
def Gb {t:aa}{L c D:J}(a:jr t.vars L)(h:cH (bM t L) c (fx t L) (bp t.vars L).toNat D){s:J}(b:ab t.vars s):0<=dg D (bU t.vars L s)/\dg D (bU t.vars L s)<=bD:=by
 have e:=oz b a.mem;have:=h.dC (bU t.vars L s).toNat U
 rwa[fZ e.1]at this
end
end Go.Proofs.YtmapkjoefdgjfaaGreatDoor
