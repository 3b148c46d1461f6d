/- Several texts. -/
import Derived.Test.YtmapkjoefdgjfaaGreatDoorMW10E
set_option linter.unusedSimpArgs false
set_option linter.unusedVariables false
set_option linter.defProp false
set_option maxRecDepth 8000
set_option maxHeartbeats 16000000
open List Nat
namespace Go.Proofs.YtmapkjoefdgjfaaGreatDoor
open Go.Sl
variable {α:Type}{i m:Nat}{x k:Int}{S:J}
section
open Go.Sl Go
attribute [local irreducible] vc opsW opsD opV opW PureV ReadV Thn Blk
def AP (t:aa)(L:J)(i:Nat):Prop:=∃ e∈(t.M.getD i bj).aJ,e.var∈L
instance (t:aa) (L:J) (i:Nat):Decidable (AP t L i):=by unfold AP;infer_instance
end
section
open Go.Sl Go
def Z4 [DecidableEq α]{l:List α}:∀ {m:List α},l.Nodup->(∀ x∈l,x∈m)->l.length<=m.length:=by
 induction l with
 | nil=>intro m _ _;simp
 | cons x l h =>
  intro m a f;rw[vr]at a;have hx:=f x sm;have h1:=h (m:=m.erase x) a.2 fun y g=>by
   have b:y≠x:=fun e=>a.1 (by rw[<-e];exact g);exact(GC b).2 (f y (by simp[g]))
  rw[DK hx]at h1;have:=GD hx;simp only[length_cons];omega
def rM (g:α->Int)(l:List α)(n:Nat):Nat:=(l.filter fun s=>decide (0<=g s/\g s<n)).length
def Ev (g:α->Int)(l:List α)(n:Nat):Nat:=(l.filter fun s=>decide (g s=n)).length
def RT {α:Type}(g:α->Int)(n:Nat):∀ l:List α,rM g l (n+1)=rM g l n+Ev g l n
 | []=>rfl
 | x::l=>by
  have a:=RT g n l;simp only[rM,Ev,wg]at a ⊢;by_cases h1:0<=g x/\g x<(n:Int)
  ·rw[aM (by simp;omega),aM (by simpa using h1),aC (by simp;omega)]
   simp only[length_cons];omega
  by_cases b:g x=(n:Int)
  ·rw[aM (by simp;omega),aC (by simpa using h1),aM (by simpa using b)]
   simp only[length_cons];omega
  rw[aC (by simp;omega),aC (by simpa using h1),aC (by simpa using b)];exact a
def Z5 (t:aa)(p:J)(a:Nat)(op:Nat):(qj t p a op).length<=Ev (bX t.vars p) (ba t.vars) a:=by
 have h1:=Z4 (l:=qj t p a op) (m:=((ba t.vars).filter fun s=>decide (bX t.vars p s=(a:Int))).map fun s=>bX t.vars p (cB t s op)) ((Ll _ _).imp fun h e=>by omega) fun b f=>by
  obtain⟨_,s,g,j,_,f⟩:=Ar.1 f;exact iS.2 ⟨s,rV.2 ⟨HK.2 g,by simpa using j⟩,f⟩
 simpa [Ev] using h1
def RU (t:aa)(p:J)(a:Nat):∀ j,(kg t p a j).length<=j*Ev (bX t.vars p) (ba t.vars) a
 | 0=>by simp[kg]
 | j+1=>by
  have h1:=RU t p a j;have b:=Z5 t p a j;rw[HR,length_append,Lm,zO];omega
def RV (t:aa)(p:J):∀ k,(ji t p k).length<=t.M.length*rM (bX t.vars p) (ba t.vars) k
 | 0=>by simp[ji]
 | k+1=>by
  have h1:=RV t p k;have a:=RU t p k t.M.length;rw[HS,length_append,RT,Nat.mul_add];omega
def Z6 (t:aa)(p:J):(bS t p).length<=t.M.length*(ba t.vars).length :=
 pT (RV t p _) (mul_le_mul_left _ (uC _ _))
def Ln {t:aa}{p:J}(h:fy t)(a:jp t.vars p):cT t p=0/\lQ t p=0:=by
 have b:=Jg.2 ⟨h.cZ,a.qd⟩;have h1:=HL h.cZ.pos a;have f:=h.many;have g:=Z6 t p;have e:(ba t.vars).length<=512:=by rw[Aq h.cZ.pos];omega
 have j:t.M.length*(ba t.vars).length<=20*512:=zX h.M e;refine⟨?_,b⟩;rw[Jf b,j7,aC U,aC (Fm h.cZ.pos U),aC U]
def F1 (t:aa)(L:J):kt t L 0=dY t L:=aM rfl
def N4 (t:aa)(L:J)(cv ev gv:Value):cM (dY t L) cv ev gv=.agg #[E (br t.vars L),E (bX t.vars L t.cC),cv,ev,gv]:=rfl
section
variable {t:aa}{p q:J}
end
def getD_set_ne {l:J}{j:Nat}{v:Int}(h:i≠j):(l.set i v).getD j W.dflt=l.getD j W.dflt:=by
 simp only[iD];rw[tn h]
section
variable {E_:List de}{c d:J}{G:Int->Prop}{n:Nat}{D o:J}{C:Int}
inductive jn (E_:List de) (c:J) (G:Int->Prop) (S:J):Int->Int->Prop
 | aH {a:Int}:a∈S->G a->jn E_ c G S a 0
 | step {e:de}{k:Int}:e∈E_->e.bh∈S->jn E_ c G S e.dst k->jn E_ c G S e.bh (iC c e+k)
def uk (a:Int)(S:J):J:=S.filter fun x=>decide (x≠a)
def Lo {a:Int}:x∈uk a S↔x∈S/\x≠a:=by simp[uk]
def Z7 {a:Int}(h:a∈S):(uk a S).length<S.length:=by
 unfold uk;rw[length_filter_lt_length_iff_exists];exact⟨a,h,sm⟩
def Z8 (l:oD E_ c n)(a:Int)(h:jn E_ c G S x k) :
  jn E_ c G (uk a S) x k\/G a\/∃ e g,e∈E_/\e.bh=a/\jn E_ c G (uk a S) e.dst g/\iC c e+g<=k:=by
 induction h with
 | @aH b r I =>
  by_cases e:b=a
  ·subst e;exact .inr (.inl I)
  exact .inl (.aH (Lo.2 ⟨r,e⟩) I)
 | @step e k he u _ f =>
  have A:=(l.iC he).1;rcases f with f|f|⟨v,g,h1,y,z,B⟩
  ·by_cases j:e.bh=a
   ·exact .inr (.inr ⟨e,k,he,j,f,dt _⟩)
   exact .inl (.step he (Lo.2 ⟨u,j⟩) f)
  ·exact .inr (.inl f)
  exact .inr (.inr ⟨v,g,h1,y,z,U⟩)
def jn.zq (h:jn E_ c G S x k):x∈S/\lU E_ c G x k:=by
 induction h with
 | aH h I=>exact⟨h,.aH I⟩
 | step he a _ b=>exact⟨a,.step he b.2⟩
def lU.B8 (b:oD E_ c n)(h:lU E_ c G x k):0<=x->x<n->jn E_ c G (oR (n:Int)) x k:=by
 induction h with
 | aH I=>intro a h1;exact .aH (Lp.2 ⟨a,h1⟩) I
 | step he _ e=>intro a h1;have:=b.dst _ he;exact .step he (Lp.2 ⟨a,h1⟩) (e this.1 this.2)
def RW (a:oD E_ c n)(f:0<=C)(g:∀ x∈c,x<=C):∀ (m:Nat) (S:J),S.length<=m->∀ x k,jn E_ c G S x k->∃ b,b<=k/\b<=m*C/\lU E_ c G x b
 | 0,S,j,x,k,h=>by
  have:=h.zq.1;have:S=[]:=n0 U
  subst this;simp at *
 | m+1,S,j,x,k,h=>by
  have hx:=h.zq.1;have hk:=h.zq.2.B9 a;have hm:0<=(m:Int)*C:=sj U f;have u:((m+1:Nat):Int)*C=(m:Int)*C+C:=by rw[Ci,zM];simp
  rcases Z8 a x h with h1|h1|⟨e,b,he,l,Y,eI⟩
  ·exact absurd rfl (Lo.1 h1.zq.1).2
  ·exact⟨0,hk,U,.aH h1⟩
  obtain⟨r,v,a2,a3⟩:=RW a f g m (uk x S) (by have:=Z7 hx;omega) _ _ Y;have y:iC c e<=C:=g _ (cH W.dflt (by have:=a.cK e he;omega));exact⟨iC c e+r,U,U,l ▸ .step he a3⟩
def cN.AQ (a:oD E_ c n)(b:0<=C)(e:∀ x∈c,x<=C)(h:cN E_ c G n D)(hi:i<n)(Y:lU E_ c G i k):dg D i<=n*C:=by
 obtain⟨j,_,f,g⟩:=RW a b e n (oR (n:Int)) (by simp[oR]) _ _ (Y.B8 a U U);exact rU (h.low i hi _ g) f
def cN.pQ (a:oD E_ c n)(b:0<=C)(e:∀ x∈c,x<=C)(g:n*C<bH)(h:cN E_ c G n D)(hi:i<n):dg D i<bH↔∃ k,lU E_ c G i k :=
 ⟨fun f=>⟨_,h.wO i hi f⟩,fun⟨_,Y⟩=>by have:=h.AQ a b e hi Y;omega⟩
def cN.pD (a:oD E_ c n)(b:0<=C)(e:∀ x∈c,x<=C)(h:cN E_ c G n D)(hi:i<n)(f:dg D i<bH):dg D i<=n*C:=h.AQ a b e hi (h.wO i hi f)
def kS (D l:J)(e:de):J:=if dg D e.bh<bH/\dg D e.dst<bH then l.set e.cK.toNat (if dg D e.bh-dg D e.dst>iC l e then dg D e.bh-dg D e.dst else iC l e) else l
def mS (E_:List de)(D:J)(m k:Nat):J:=(E_.take k).foldl (kS D) (replicate m 0)
def nL (E_:List de)(D:J)(m:Nat):J:=mS E_ D m E_.length
def Vg (E_:List de)(D:J)(m:Nat):mS E_ D m 0=replicate m 0:=rfl
def Je {k:Nat}(hk:k<E_.length):mS E_ D m (k+1)=kS D (mS E_ D m k) (E_.getD k aT.dflt):=by
 rw[mS,eC aT.dflt hk,ti];rfl
def Z9 (D l:J)(e:de):(kS D l e).length=l.length:=by unfold kS;split<;>simp
def Jd {m:Nat}:∀ k,k<=E_.length->(mS E_ D m k).length=m
 | 0,_=>by simp[mS]
 | k+1,h=>by rw[Je U,Z9,Jd k U]
def Á:(nL E_ D m).length=m:=Jd _ (cD _)
structure qI (E_:List de) (D:J) (m:Nat) (l:J):Prop where
 len:l.length=m
 nn:∀ i:Nat,i<m->0<=l.getD i W.dflt
 low:∀ e∈E_,dg D e.bh<bH->dg D e.dst<bH->dg D e.bh-dg D e.dst<=iC l e
 wO:∀ i:Nat,i<m->l.getD i W.dflt=0\/∃ e∈E_,e.cK=i/\dg D e.bh<bH/\dg D e.dst<bH/\l.getD i W.dflt=dg D e.bh-dg D e.dst
def RX {m:Nat}(u:∀ e∈E_,0<=e.cK/\e.cK<m):∀ k,k<=E_.length->qI (E_.take k) D m (mS E_ D m k)
 | 0,_=>⟨by simp[mS],fun i r=>by simp[mS,List.getD,r],fun e he=>by simp at he,fun i r=>.inl (by simp[mS,List.getD,r])⟩
 | k+1,h=>by
  have hk:k<E_.length:=U;obtain⟨h1,H,K,A⟩:=RX u k U;have he:=cH aT.dflt hk;have L:=u _ he;rw[Je hk,eC aT.dflt hk];generalize mS E_ D m k=l at h1 H K A;generalize E_.getD k aT.dflt=e at he L;have I:∀ (i:Int) (v:Int),0<=i->(l.set e.cK.toNat v).getD i.toNat W.dflt=if i=e.cK then v else l.getD i.toNat W.dflt:=fun i v r=>Cg r L.1 U
  unfold kS;split
  ·rename_i B
   have y:∀ i:Int,0<=i->l.getD i.toNat W.dflt<=(l.set e.cK.toNat (if dg D e.bh-dg D e.dst>iC l e then dg D e.bh-dg D e.dst else iC l e)).getD i.toNat W.dflt:=by
    intro i r;rw[I i _ r];split
    ·rename_i F;subst F;show iC l e<=_;split<;>omega
    exact dt _
   refine⟨by rw[gY];exact h1,fun i r=>?_,fun z g a b=>?_,fun i r=>?_⟩
   ·have:=y i U;rw[jo]at this;have:=H i r;omega
   ·rcases gG.1 g with g|g
    ·have N:=u z (pO g)
     exact rU (K z g a b) (y z.cK N.1)
    rw[dp.1 g];show _<=(l.set e.cK.toNat _).getD e.cK.toNat W.dflt;rw[I _ _ L.1,aM rfl];split<;>omega
   have hgi:=I i (if dg D e.bh-dg D e.dst>iC l e then dg D e.bh-dg D e.dst else iC l e) U;rw[jo]at hgi;rw[hgi];split
   ·rename_i F
    split
    ·exact .inr ⟨e,sm,F.symm,B.1,B.2,rfl⟩
    have N:iC l e=l.getD i W.dflt:=by show l.getD e.cK.toNat W.dflt=_;rw[<-F];rfl
    rw[N];rcases A i r with h|⟨z,a,b⟩
    ·exact .inl h
    exact .inr ⟨z,xX _ a,b⟩
   rcases A i r with h|⟨z,a,b⟩
   ·exact .inl h
   exact .inr ⟨z,xX _ a,b⟩
  rename_i B;refine⟨h1,H,fun z g a b=>?_,fun i r=>?_⟩
  ·rcases gG.1 g with g|g
   ·exact K z g a b
   rw[dp.1 g]at a b;exact absurd ⟨a,b⟩ B
  rcases A i r with h|⟨z,a,b⟩
  ·exact .inl h
  exact .inr ⟨z,xX _ a,b⟩
def Oa (a:∀ e∈E_,0<=e.cK/\e.cK<m):qI E_ D m (nL E_ D m):=by
 have:=RX (D:=D) a E_.length (cD _)
 rwa[kV]at this
def qI.le {l:J}(a:oD E_ c n)(f:cN E_ c G n D)(b:qI E_ D c.length l)(hi:i<c.length):0<=l.getD i W.dflt/\l.getD i W.dflt<=c.getD i W.dflt:=by
 refine⟨b.nn i hi,?_⟩;rcases b.wO i hi with h|⟨e,he,g,h1,j,r⟩
 ·rw[h];exact(a.aN _ (cH _ hi)).1
 rw[r];have:=f.E4 a he j;have u:iC c e=c.getD i W.dflt:=by show c.getD e.cK.toNat W.dflt=_;rw[g];rfl
 omega
end
def RY {t:aa}{L c D:J}(a:jp t.vars L)(h:cN (bS t L) c (fq t L) (br t.vars L).toNat D){s:J}(b:ab t.vars s)(f:cp s t.aH):dg D (bX t.vars L s)=0:=by
 have e:=oF b a.mem;have:=h.aH (i:=(bX t.vars L s).toNat) U (by rw[gA e.1];exact Z2 a b f)
 rwa[gA e.1]at this
def Gn {t:aa}{L c D:J}(a:jp t.vars L)(h:cN (bS t L) c (fq t L) (br t.vars L).toNat D){s:J}(b:ab t.vars s):0<=dg D (bX t.vars L s)/\dg D (bX t.vars L s)<=bH:=by
 have e:=oF b a.mem;have:=h.dK (bX t.vars L s).toNat U
 rwa[gA e.1]at this
end
end Go.Proofs.YtmapkjoefdgjfaaGreatDoor
