/- Several texts. -/
import Derived.Test.YtmapkjoefdgjfaaGreatDoorMW10H
set_option linter.unusedSimpArgs false
set_option linter.unusedVariables false
set_option linter.defProp false
set_option maxRecDepth 8000
set_option maxHeartbeats 16000000
open List Nat
namespace Go.Proofs.YtmapkjoefdgjfaaGreatDoor
open Go.Sl
variable {α:Type}{i m:Nat}{x k:Int}{S:J}
section
open Go.Sl Go
attribute [local irreducible] vc opsW opsD opV opW PureV ReadV Thn Blk
def Ca (t:aa)(L:J)(i:Nat):Prop:=∃ e∈(t.M.getD i bz).aQ,e.var∈L
instance (t:aa) (L:J) (i:Nat):Decidable (Ca t L i):=by unfold Ca;infer_instance
end
section
open Go.Sl Go
def Θ [DecidableEq α]{l:List α}:∀ {m:List α},l.Nodup->(∀ x∈l,x∈m)->l.length<=m.length:=by
 induction l with
 | nil=>grind
 | cons x l b =>
  intro m a e;rw[wW]at a;have hx:=e x sm;have h1:=b (m:=m.erase x) a.2 fun y f=>by
   grind
  grind
def tr (g:α->Int)(l:List α)(n:Nat):Nat:=(l.filter fun s=>decide (0<=g s/\g s<n)).length
def Gi (g:α->Int)(l:List α)(n:Nat):Nat:=(l.filter fun s=>decide (g s=n)).length
def Uz {α:Type}(g:α->Int)(n:Nat):∀ l:List α,tr g l (n+1)=tr g l n+Gi g l n
 | []=>rfl
 | x::l=>by
  have a:=Uz g n l;simp only[tr,Gi,Fy]at a ⊢
  grind
def Ι (t:aa)(p:J)(a:Nat)(op:Nat):(rS t p a op).length<=Gi (cy t.vars p) (aP t.vars) a:=by
 have h1:=Θ (l:=rS t p a op) (m:=((aP t.vars).filter fun s=>decide (cy t.vars p s=(a:Int))).map fun s=>cy t.vars p (cD t s op)) ((Jo _ _).imp fun h e=>by omega) fun b f=>by
  obtain⟨_,s,g,j,_,f⟩:=BL.1 f;exact iG.2 ⟨s,wT.2 ⟨Jn.2 g,by grind⟩,f⟩
 simpa [Gi] using h1
def UA (t:aa)(p:J)(a:Nat):∀ j,(kB t p a j).length<=j*Gi (cy t.vars p) (aP t.vars) a
 | 0=>by simp[kB]
 | j+1=>by
  have h1:=UA t p a j;have b:=Ι t p a j;rw[Jp,length_append,Nk,z6];omega
def UB (t:aa)(p:J):∀ k,(jL t p k).length<=t.M.length*tr (cy t.vars p) (aP t.vars) k
 | 0=>by simp[jL]
 | k+1=>by
  have h1:=UB t p k;have a:=UA t p k t.M.length;rw[Jq,length_append,Uz,Nat.mul_add];omega
def UC (t:aa)(p:J):(cm t p).length<=t.M.length*(aP t.vars).length :=
 rN (UB t p _) (mul_le_mul_left _ (wV _ _))
def Ez {t:aa}{p:J}(h:fx t)(a:jX t.vars p):dh t p=0/\nb t p=0:=by
 have b:=KP.2 ⟨h.dJ,a.rM⟩;have h1:=D2 h.dJ.pos a;have f:=h.many;have g:=UC t p;have e:(aP t.vars).length<=512:=by rw[z8 h.dJ.pos];omega
 have j:t.M.length*(aP t.vars).length<=20*512:=xc h.M e;refine⟨?_,b⟩;rw[KO b,lu,aM U,aM (Hb h.dJ.pos U),aM U]
def HO (t:aa)(L:J):kQ t L 0=dY t L:=ba rfl
def Ql (t:aa)(L:J)(cv ev gv:Value):df (dY t L) cv ev gv=.agg #[E (bG t.vars L),E (cy t.vars L t.dt),cv,ev,gv]:=rfl
section
variable {t:aa}{p q:J}
end
def getD_set_ne {l:J}{j:Nat}{v:Int}(h:i≠j):(l.set i v).getD j W.dflt=l.getD j W.dflt:=by
 simp only[ow];rw[uO h]
section
variable {E_:List dr}{c o:J}{G:Int->Prop}{n:Nat}{D d:J}{C:Int}
inductive kp (E_:List dr) (c:J) (G:Int->Prop) (S:J):Int->Int->Prop
 | aF {a:Int}:a∈S->G a->kp E_ c G S a 0
 | step {e:dr}{k:Int}:e∈E_->e.br∈S->kp E_ c G S e.dst k->kp E_ c G S e.br (iS c e+k)
def vO (a:Int)(S:J):J:=S.filter fun x=>decide (x≠a)
def Nl {a:Int}:x∈vO a S↔x∈S/\x≠a:=by simp[vO]
def Κ {a:Int}(h:a∈S):(vO a S).length<S.length:=by
 unfold vO
 simp_all
def Λ (j:pR E_ c n)(a:Int)(h:kp E_ c G S x k) :
  kp E_ c G (vO a S) x k\/G a\/∃ e g,e∈E_/\e.br=a/\kp E_ c G (vO a S) e.dst g/\iS c e+g<=k:=by
 induction h with
 | @aF b l I =>
  by_cases e:b=a
  ·grind
  exact .inl (.aF (Nl.2 ⟨l,e⟩) I)
 | @step e k he r _ f =>
  have v:=(j.iS he).1;rcases f with f|f|⟨y,g,h1,z,A,B⟩
  ·by_cases u:e.br=a
   ·grind
   exact .inl (.step he (Nl.2 ⟨r,u⟩) f)
  ·grind
  grind
def kp.AY (h:kp E_ c G S x k):x∈S/\lK E_ c G x k:=by
 induction h with
 | aF h I=>exact⟨h,.aF I⟩
 | step he a _ b=>exact⟨a,.step he b.2⟩
def lK.Dv (b:pR E_ c n)(h:lK E_ c G x k):0<=x->x<n->kp E_ c G (q6 (n:Int)) x k:=by
 induction h with
 | aF I=>intro a h1;exact .aF (Nn.2 ⟨a,h1⟩) I
 | step he _ e=>intro a h1;have:=b.dst _ he;exact .step he (Nn.2 ⟨a,h1⟩) (e this.1 this.2)
def UD (a:pR E_ c n)(f:0<=C)(g:∀ x∈c,x<=C):∀ (m:Nat) (S:J),S.length<=m->∀ x k,kp E_ c G S x k->∃ b,b<=k/\b<=m*C/\lK E_ c G x b
 | 0,S,j,x,k,h=>by
  have:=h.AY.1
  grind
 | m+1,S,j,x,k,h=>by
  have hx:=h.AY.1;have hk:=h.AY.2.Dw a;have hm:0<=(m:Int)*C:=vX U f;have u:((m+1:Nat):Int)*C=(m:Int)*C+C:=by rw[DC,HQ];simp
  rcases Λ a x h with h1|h1|⟨e,b,he,l,Y,fh⟩
  ·exact absurd rfl (Nl.1 h1.AY.1).2
  ·exact⟨0,hk,U,.aF h1⟩
  obtain⟨r,v,a2,a3⟩:=UD a f g m (vO x S) (by have:=Κ hx;omega) _ _ Y;have y:iS c e<=C:=g _ (cS W.dflt (by have:=a.cU e he;omega));exact⟨iS c e+r,U,U,l ▸ .step he a3⟩
def db.wG (a:pR E_ c n)(b:0<=C)(e:∀ x∈c,x<=C)(h:db E_ c G n D)(hi:i<n)(Y:lK E_ c G i k):dg D i<=n*C:=by
 obtain⟨j,_,f,g⟩:=UD a b e n (q6 (n:Int)) (by simp[q6]) _ _ (Y.Dv a U U);exact uJ (h.low i hi _ g) f
def db.qE (a:pR E_ c n)(b:0<=C)(e:∀ x∈c,x<=C)(g:n*C<bZ)(h:db E_ c G n D)(hi:i<n):dg D i<bZ↔∃ k,lK E_ c G i k :=
 ⟨fun f=>⟨_,h.ww i hi f⟩,fun⟨_,Y⟩=>by have:=h.wG a b e hi Y;omega⟩
def db.ru (a:pR E_ c n)(b:0<=C)(e:∀ x∈c,x<=C)(h:db E_ c G n D)(hi:i<n)(f:dg D i<bZ):dg D i<=n*C:=h.wG a b e hi (h.ww i hi f)
def mn (D l:J)(e:dr):J:=if dg D e.br<bZ/\dg D e.dst<bZ then l.set e.cU.toNat (if dg D e.br-dg D e.dst>iS l e then dg D e.br-dg D e.dst else iS l e) else l
def oK (E_:List dr)(D:J)(m k:Nat):J:=(E_.take k).foldl (mn D) (replicate m 0)
def qd (E_:List dr)(D:J)(m:Nat):J:=oK E_ D m E_.length
def XU (E_:List dr)(D:J)(m:Nat):oK E_ D m 0=replicate m 0:=rfl
def KN {k:Nat}(hk:k<E_.length):oK E_ D m (k+1)=mn D (oK E_ D m k) (E_.getD k aV.dflt):=by
 rw[oK,eX aV.dflt hk,u0];rfl
def Μ (D l:J)(e:dr):(mn D l e).length=l.length:=by unfold mn;grind
def KM {m:Nat}:∀ k,k<=E_.length->(oK E_ D m k).length=m
 | 0,_=>by simp[oK]
 | k+1,h=>by rw[KN U,Μ,KM k U]
def Ν:(qd E_ D m).length=m:=KM _ (cP _)
structure sk (E_:List dr) (D:J) (m:Nat) (l:J):Prop where
 len:l.length=m
 nn:∀ i:Nat,i<m->0<=l.getD i W.dflt
 low:∀ e∈E_,dg D e.br<bZ->dg D e.dst<bZ->dg D e.br-dg D e.dst<=iS l e
 ww:∀ i:Nat,i<m->l.getD i W.dflt=0\/∃ e∈E_,e.cU=i/\dg D e.br<bZ/\dg D e.dst<bZ/\l.getD i W.dflt=dg D e.br-dg D e.dst
def UE {m:Nat}(u:∀ e∈E_,0<=e.cU/\e.cU<m):∀ k,k<=E_.length->sk (E_.take k) D m (oK E_ D m k)
 | 0,_=>⟨by simp[oK],fun i j=>by simp[oK,List.getD,j],fun e he=>by simp at he,fun i j=>.inl (by simp[oK,List.getD,j])⟩
 | k+1,h=>by
  have hk:k<E_.length:=U;obtain⟨h1,F,H,z⟩:=UE u k U;have he:=cS aV.dflt hk;have A:=u _ he;rw[KN hk,eX aV.dflt hk];generalize oK E_ D m k=l at h1 F H z;generalize E_.getD k aV.dflt=e at he A;have I:∀ (i:Int) (v:Int),0<=i->(l.set e.cU.toNat v).getD i.toNat W.dflt=if i=e.cU then v else l.getD i.toNat W.dflt:=fun i v j=>DB j A.1 U
  unfold mn;split
  ·rename_i K
   have y:∀ i:Int,0<=i->l.getD i.toNat W.dflt<=(l.set e.cU.toNat (if dg D e.br-dg D e.dst>iS l e then dg D e.br-dg D e.dst else iS l e)).getD i.toNat W.dflt:=by
    intro i j;rw[I i _ j];split
    ·grind
    omega
   refine⟨by grind,fun i j=>?_,fun B r a b=>?_,fun i j=>?_⟩
   ·have:=y i U;rw[jU]at this;grind
   ·rcases kK.1 r with r|r
    ·grind
    rw[fU.1 r];show _<=(l.set e.cU.toNat _).getD e.cU.toNat W.dflt;rw[I _ _ A.1,ba rfl];omega
   have hgi:=I i (if dg D e.br-dg D e.dst>iS l e then dg D e.br-dg D e.dst else iS l e) U;rw[jU]at hgi;rw[hgi];split
   ·rename_i L
    split
    ·grind
    have N:iS l e=l.getD i W.dflt:=by show l.getD e.cU.toNat W.dflt=_;rw[<-L];rfl
    rw[N];rcases z i j with h|⟨B,a,b⟩
    ·exact .inl h
    grind
   rcases z i j with h|⟨B,a,b⟩
   ·exact .inl h
   grind
  rename_i K;refine⟨h1,F,fun B r a b=>?_,fun i j=>?_⟩
  ·grind
  grind
def Qq (a:∀ e∈E_,0<=e.cU/\e.cU<m):sk E_ D m (qd E_ D m):=by
 have:=UE (D:=D) a E_.length (cP _)
 rwa[mK]at this
def sk.le {l:J}(a:pR E_ c n)(f:db E_ c G n D)(b:sk E_ D c.length l)(hi:i<c.length):0<=l.getD i W.dflt/\l.getD i W.dflt<=c.getD i W.dflt:=by
 refine⟨b.nn i hi,?_⟩;rcases b.ww i hi with h|⟨e,he,r,h1,g,j⟩
 ·rw[h];exact(a.aT _ (cS _ hi)).1
 rw[j];have:=f.GV a he g
 grind
end
def UF {t:aa}{L c D:J}(a:jX t.vars L)(h:db (cm t L) c (gg t L) (bG t.vars L).toNat D){s:J}(b:aj t.vars s)(e:cE s t.aF):dg D (cy t.vars L s)=0:=by
 have f:=qF b a.mem;have:=h.aF (i:=(cy t.vars L s).toNat) U (by rw[jW f.1];exact Ζ a b e)
 grind
def H5 {t:aa}{L c D:J}(a:jX t.vars L)(h:db (cm t L) c (gg t L) (bG t.vars L).toNat D){s:J}(b:aj t.vars s):0<=dg D (cy t.vars L s)/\dg D (cy t.vars L s)<=bZ:=by
 have e:=qF b a.mem;have:=h.et (cy t.vars L s).toNat U
 grind
end
end Go.Proofs.YtmapkjoefdgjfaaGreatDoor
