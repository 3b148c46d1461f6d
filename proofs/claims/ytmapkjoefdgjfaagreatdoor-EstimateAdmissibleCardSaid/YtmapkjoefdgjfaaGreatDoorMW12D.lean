/- Several texts. -/
import Derived.Test.YtmapkjoefdgjfaaGreatDoorMW11D
set_option linter.unusedSimpArgs false
set_option linter.unusedVariables false
set_option linter.defProp false
set_option maxRecDepth 8000
set_option maxHeartbeats 16000000
open List Nat
namespace Go.Proofs.YtmapkjoefdgjfaaGreatDoor
open Go.Sl
variable {f k x M':Int}{p c y:J}{u:Un}
section
variable {t:aa}
def tB (t:aa):(am t).length=t.Z.length:=by simp[am]
def zy (I:aC t):∀ x∈am t,0<=x/\x<=1048576:=fun x hx=>by
 obtain⟨i,b,rfl⟩:=fF hx;have a:i<t.Z.length:=by rw[tB]at b;exact b
 rw[<-al (d:=O.dflt) b,tC a];exact⟨(I.op i a).kI,(I.op i a).nz⟩
def j_ (I:aC t){s:J}{c:Int}(h:lu t s p c):ab t.vars s->(ki (ct t) (am t) (ja t)) (cQ t.vars s) c:=by
 induction h with
 | @aG s i =>
  intro a;refine .aG ?_;unfold ja;rw[(Eh I.pos a).2]
  exact i
 | @step s op p c b j _ l =>
  intro a;have d:=r6 I a b;have h1:=l d;have e:=Eh I.pos a;have m:=wK a;have hm:(⟨((cQ t.vars s).toNat:Int),(op:Int),cQ t.vars (cd t s op)⟩:cS)∈ct t:=K0.2 ⟨(cQ t.vars s).toNat,op,e.1,b,by rw[e.2];exact j,by rw[e.2]⟩;have g:=ki.step hm h1;simp only[gG,gY,tC b]at g
  rwa[fZ m.1]at g
def k_ (I:aC t){i:Int}(Y:(ki (ct t) (am t) (ja t)) i k):0<=i->i<(aF t.vars).length->∃ p,lu t ((aF t.vars).getD i.toNat []) p k:=by
 induction Y with
 | @aG a j=>exact fun _ _=>⟨[],.aG j⟩
 | @step e k he _ l =>
  intro v h1;obtain⟨i,op,m,d,n,rfl⟩:=K0.1 he;have g:=(Eg I.pos m).1;have b:=r6 I g d;have q:=Eh I.pos b;have r:=wK b;obtain⟨p,h⟩:=l r.1 (by simp only;omega);simp only[q.2]at h;refine⟨(op:Int)::p,?_⟩;simp only[gY,gG,tC d];exact .step d n h
structure AO (t:aa) (s:J) (b:Int):Prop where
 le:b<=bD
 nn:0<=b
 uL:b<bD->∃ p,lu t s p b
 low:∀ p c,lu t s p c->b<=c/\b<bD
def ĉ (I:aC t){D:J}(n:(aF t.vars).length<=512)(d:cH (ct t) (am t) (ja t) (aF t.vars).length D){s:J}(i:ab t.vars s):AO t s (D.getD (cQ t.vars s).toNat O.dflt):=by
 have b:=Eh I.pos i;have j:=wK i;have m:nD (ct t) (am t) (aF t.vars).length:=AH I ⟨tB t,fun x hx=>by have:=zy I x hx;omega⟩;have e:dg D ((cQ t.vars s).toNat:Int)=D.getD (cQ t.vars s).toNat O.dflt:=by unfold dg;rw[gY]
 have a:=d.dC _ b.1;rw[e]at a;refine⟨a.2,a.1,fun h=>?_,fun p c g=>?_⟩
 ·have h1:=d.uL _ b.1 (by rw[e];exact h)
  rw[e]at h1;obtain⟨p,g⟩:=k_ I h1 U U;rw[gY,b.2]at g;exact⟨p,g⟩
 have Y:=j_ I g i;have h1:dg D ((cQ t.vars s).toNat:Int)<=c:=d.low _ b.1 c (by rw[fZ j.1];exact Y);have l:=(d.ow m (C:=1048576) dc (fun x hx=>(zy I x hx).2) (by have q:bD=1125899906842624:=rfl;omega) b.1).2 ⟨c,by rw[fZ j.1];exact Y⟩;rw[e]at h1 l;exact⟨h1,l⟩
variable {H:J->Int}{lim:Nat}
end
def SH {α:Type}[DecidableEq α]:∀ {l m:List α},l.Nodup->(∀ x∈l,x∈m)->l.length<=m.length
 | [],_,_,_=>br _
 | x::l,m,d,a=>by
  obtain⟨h1,g⟩:=vk.1 d;have hx:=a x gA;have h:∀ y∈l,y∈m.erase x:=fun y b=>(Gm (fun e=>h1 (by rw[<-e];exact b))).2 (a y (iR _ b));have i:=SH g h;have j:=DB hx;have n:=Gn hx;rw[length_cons];omega
def T5 {α:Type}{P Q:α->Bool}:∀ {l:List α},(∀ x∈l,P x=true->Q x=true)->(∃ x∈l,Q x=true/\P x=false)->l.countP P<l.countP Q
 | [],_,h=>by obtain⟨x,hx,_⟩:=h;exact absurd hx fM
 | y::l,h1,d=>by
  have hm:l.countP P<=l.countP Q:=countP_mono_left fun x hx=>h1 x (iR _ hx);rw[DM,DM];obtain⟨x,hx,a,b⟩:=d;rcases dZ.1 hx with rfl|hx
  ·rw[a,b,aP rfl,aH dc];omega
  have i:=T5 (fun x hx=>h1 x (iR _ hx)) ⟨x,hx,a,b⟩;have e:=h1 y gA;cases g:P y
  ·rw[aH dc];omega
  rw[e g,aP rfl];omega
section
variable {A:EV}
end
section
variable {A:EV}
def E5 (t:aa)(H:J->Int):Prop:=∀ s op,ab t.vars s->op<t.Z.length->iT t s op->H s<=qu t op+H (cd t s op)
end
structure mr (t:aa) (S:bV) (φ:J->Int):Prop where
 dC:∀ s,ab t.vars s->0<=φ s/\φ s<S.st
 aO:S.aT=am t
 up:∀ s op,ab t.vars s->op<t.Z.length->iT t s op->(⟨φ s,(op:Int),φ (cd t s op)⟩:cS)∈S.aB
 aG:∀ s,ab t.vars s->bZ s t.aG->S.aR.getD (φ s).toNat ah.dflt=true
section
variable {t:aa}{S A B:bV}{φ o:J->Int}
def mr.congr (h:mr t S φ)(I:aC t)(he:∀ s,ab t.vars s->o s=φ s):mr t S o where
 dC s a:=by rw[he s a];exact h.dC s a
 aO:=h.aO
 up s op a b d:=by rw[he s a,he _ (r6 I a b)];exact h.up s op a b d
 aG s a e:=by rw[he s a];exact h.aG s a e
def Mt (I:aC t)(d:∀ v∈p,0<=v/\v<t.vars.length):mr t (dV t p) (bU t.vars p) where
 dC s b:=oz b d
 aO:=rfl
 up s op b e g:=FN.2 ⟨_,op,_,oz b d,e,oz (r6 I b e) d,⟨s,b,rfl,g,rfl⟩,rfl⟩
 aG s b h:=by
  have j:=oz b d;have h1:=RD (t:=t) (p:=p) (k:=(bp t.vars p).toNat) (a:=(bU t.vars p s).toNat) U;have i:mD t p (((bU t.vars p s).toNat:Nat):Int)=true:=K1.2 ⟨s,b,U,wM.2 fun x hx=>wM.1 h x (rP.1 hx).1⟩;exact h1.trans i
def l_ (h:iS S=true):dP S:=nl fun a=>by rw[wc a]at h;cases h
def m_ (a:fz S c=0):dP S/\0<=lW c S.st/\jB c S.st (lW c S.st):=by
 unfold fz at a;by_cases h:iS S=true/\lm c S.st=true
 ·exact⟨l_ h.1,T6 h.2⟩
 rw[aH h]at a;exact absurd a dc
def T7 {n:Int}(h:jB c n k)(b:0<=x)(h1:x<n):0<=c.getD x.toNat O.dflt/\c.getD x.toNat O.dflt<k:=by
 obtain⟨c1,c2,a,_⟩:=h;have hm:c.getD x.toNat O.dflt∈c:=cD O.dflt U;exact⟨(c2 _ hm).1,a _ hm⟩
def n_ (h:mr t S φ)(I:aC t)(b:fz S c=0):mr t (kE S c) (fun s=>c.getD (φ s).toNat O.dflt):=by
 obtain⟨hv,hk,d⟩:=m_ b;have g:kE S c=⟨lW c S.st,c.getD S.bL.toNat O.dflt,S.aT,lN (ir ji (S.aB.map (rq c))),sG S.aR c (lW c S.st).toNat⟩:=by unfold kE;rw[aP b]
 rw[g];refine⟨fun s a=>?_,h.aO,fun s op a i j=>?_,fun s a l=>?_⟩
 ·have:=h.dC s a
  exact T7 d this.1 this.2
 ·exact Mb.2 ((L8 wT).2 (iQ.2 ⟨_,h.up s op a i j,rfl⟩))
 have e:=h.dC s a;have hx:=T7 d e.1 e.2;have m:(S.aR.length:Int)=S.st:=hv.2.2.2.2.1;show (ic S.aR c (lW c S.st).toNat S.aR.length).getD (c.getD (φ s).toNat O.dflt).toNat ah.dflt=true;rw[Hu U,any_eq_true];refine⟨(φ s).toNat,by rw[mem_range];omega,?_⟩;rw[Bool.and_eq_true,gR];exact⟨U,h.aG s a l⟩
def T8 {i j:Nat}(a:j<B.st.toNat):∀ {m:Nat},i<m->(mj A B m).getD (i*B.st.toNat+j) ah.dflt=(A.aR.getD i ah.dflt && B.aR.getD j ah.dflt)
 | 0,h=>absurd h (dx _)
 | m+1,h=>by
  have b:=KB A B m;rw[KA,iB];by_cases e:i<m
  ·have h1:(i+1)*B.st.toNat<=m*B.st.toNat:=uF _ e
   rw[qB,ww]at h1;rw[js U,<-iB];exact T8 a e
  have d:i=m:=U;subst d;rw[kp U,b,JY];simp[nP,a]
def o_ (a:dA A B=0):dP A/\dP B/\A.aT=B.aT/\A.st*B.st<=4096/\zf A B<=65536:=by
 unfold dA at a;split at a
 ·rename_i h
  split at a
  ·exact absurd a dc
  rename_i b;split at a
  ·exact absurd a dc
  rename_i d;exact⟨h.1,h.2.1,h.2.2,U,U⟩
 exact absurd a dc
def p_ {y a b:Int}(d:0<=x)(hx:x<a)(e:0<=y)(h:y<b):0<=x*b+y/\x*b+y<a*b:=by
 have h1:0<=x*b:=tj d U;have g:(x+1)*b<=a*b:=yt U U;rw[zH,Dh]at g;omega
def q_ (d:mr t A φ)(h:mr t B o)(n:dA A B=0):mr t (jk A B) (fun s=>φ s*B.st+o s):=by
 obtain⟨r,v,i,z,C⟩:=o_ n;have D:jk A B=⟨A.st*B.st,A.bL*B.st+B.bL,A.aT,ir ji (sF A B),mX A B⟩:=by unfold jk;rw[aP n]
 rw[D];refine⟨fun s a=>?_,d.aO,fun s op a j b=>?_,fun s a q=>?_⟩
 ·have h1:=d.dC s a
  have l:=h.dC s a;exact p_ h1.1 h1.2 l.1 l.2
 ·have m:op<A.aT.length:=by rw[d.aO,tB];exact j
  refine(L8 wT).2 (tm.2 ⟨op,mem_range.2 m,tm.2 ⟨⟨φ s,(op:Int),φ (cd t s op)⟩,?_,iQ.2 ⟨⟨o s,(op:Int),o (cd t s op)⟩,?_,rfl⟩⟩⟩)
  ·exact(Ad (g:=fun e:cS=>e.cG) m).2 ⟨d.up s op a j b,rfl⟩
  exact(Ad (g:=fun e:cS=>e.cG) (by rw[<-i];exact m)).2 ⟨h.up s op a j b,rfl⟩
 have h1:=d.dC s a;have l:=h.dC s a;have m:(φ s*B.st+o s).toNat=(φ s).toNat*B.st.toNat+(o s).toNat:=by
  have hm:0<=φ s*B.st:=tj h1.1 U;have F:(((φ s).toNat*B.st.toNat:Nat):Int)=φ s*B.st:=by
   rw[JV,fZ h1.1,fZ U]
  omega
 show (mj A B A.st.toNat).getD (φ s*B.st+o s).toNat ah.dflt=true;rw[m,T8 U U,d.aG s a q,h.aG s a q];rfl
def r_ {n:Nat}(a:0<=x)(h1:x<n):(cY n).getD x.toNat O.dflt=x:=by
 have h:x.toNat<n:=U;simp[cY,List.getD,h];omega
def Mu (h:mr t S φ)(I:aC t)(a:cI S M'=0):mr t (dU S M') (fun s=>(fU S M').getD (φ s).toNat O.dflt):=by
 by_cases hm:S.st<=M'
 ·have b:fU S M'=cY S.st.toNat:=by unfold fU;rw[aP hm]
  have d:dU S M'=S:=by unfold dU;rw[aP hm]
  rw[b,d];refine h.congr I fun s e=>?_;have:=h.dC s e;exact r_ this.1 U
 by_cases hv:dP S
 ·have b:fU S M'=gD S M':=by unfold fU;rw[aH hm,aP hv]
  have d:dU S M'=kE S (gD S M'):=by unfold dU;rw[aH hm,aP hv]
  have e:fz S (gD S M')=0:=by unfold cI at a;rwa[aH hm,aP hv]at a
  rw[b,d];exact n_ h I e
 unfold cI at a;rw[aH hm,aH hv]at a;exact absurd a dc
def T9 {vars s:J}{v:Int}:bU vars [v] s=sg s v:=by
 simp[bU,fO,cQ,lC]
def Ua {M':Int}(I:aC t):∀ k,k<t.vars.length->(lB t M' (k+1)).vr=0->(lB t M' (k+1)).eI≠[]/\mr t (lB t M' (k+1)).eE (fun s=>nZ s (lB t M' (k+1)).eI)
 | 0,hk,he=>by
  have d:∀ v∈[(0:Int)],0<=v/\v<t.vars.length:=fun v hv=>by rw[dp.1 hv];omega
  have e:lB t M' 1=pC t M' 0:=rfl;rw[e]at he ⊢;unfold pC at he ⊢;by_cases h1:cO t [0]≠0
  ·rw[aP h1]at he;exact absurd he h1
  rw[aH h1]at he ⊢;by_cases a:cI (dV t [0]) M'≠0
  ·rw[aP a]at he;exact absurd he a
  rw[aH a];have b:=Mu (M':=M') (Mt I d) I (tK.1 a);refine⟨sm,b.congr I fun s m=>?_⟩;show (fU (dV t [0]) M').getD (s.getD (0:Int).toNat O.dflt).toNat O.dflt=_
  rw[T9]
 | k+1,hk,he=>by
  have d:∀ v∈[((k+1:Nat):Int)],0<=v/\v<t.vars.length:=fun v hv=>by rw[dp.1 hv];omega
  have e:lB t M' (k+1+1)=pD t M' (lB t M' (k+1)) ((k+1:Nat):Int):=rfl;rw[e]at he ⊢;have l:=Ua I k (M':=M') U;generalize lB t M' (k+1)=X' at l he ⊢;generalize hv:((k+1:Nat):Int)=v at d he ⊢;clear hv e;unfold pD at he ⊢;by_cases g:X'.vr≠0
  ·rw[aP g]at he;exact absurd he g
  rw[aH g]at he ⊢;by_cases h1:cO t [v]≠0
  ·rw[aP h1]at he;exact absurd he h1
  rw[aH h1]at he ⊢;obtain⟨i,j⟩:=l (tK.1 g);simp only at he ⊢;generalize um M' X'.eE.st (dV t [v]).st=lr at he ⊢;by_cases a:cI X'.eE lr.1≠0
  ·rw[aP a]at he;exact absurd he a
  rw[aH a]at he ⊢;by_cases b:cI (dV t [v]) lr.2≠0
  ·rw[aP b]at he;exact absurd he b
  rw[aH b]at he ⊢;by_cases h:dA (dU X'.eE lr.1) (dU (dV t [v]) lr.2)≠0
  ·rw[aP h]at he;exact absurd he h
  rw[aH h];have g1:=Mu j I (tK.1 a);have g2:=Mu (M':=lr.2) (Mt I d) I (tK.1 b);have g3:=q_ g1 g2 (tK.1 h);refine⟨sm,g3.congr I fun s m=>?_⟩;show nZ s (X'.eI++[_])=_;rw[Mv i,T9]
def s_ (I:aC t)(a:eL t M'=0):dP (lB t (lg M') t.vars.length).eE/\mr t (lB t (lg M') t.vars.length).eE (fun s=>nZ s (re t M')):=by
 unfold eL at a;by_cases h1:(lB t (lg M') t.vars.length).vr≠0
 ·rw[aP h1]at a;exact absurd a h1
 rw[aH h1]at a;by_cases b:dP (lB t (lg M') t.vars.length).eE;rotate_left
 ·rw[aH b]at a;exact absurd a dc
 refine⟨b,?_⟩;unfold re
 cases d:t.vars.length with
 | zero =>
  rw[d]at h1 b;have e:cO t []=0:=tK.1 h1;have g:(lB t (lg M') 0).eE=dV t []:=by show kw t [] (cO t [])=_;unfold kw;rw[aP e]
  rw[g]
  refine(Mt I (p:=[]) fun v hv=>absurd hv fM).congr I fun s h=>rfl
 | succ k =>
  rw[d]at h1;exact(Ua I k U (tK.1 h1)).2
def t_ (I:aC t)(h:mr t S φ)(hv:dP S):(∀ i:Nat,0<=(mT S).getD i O.dflt/\(mT S).getD i O.dflt<=bD) /\
  (∀ s op,ab t.vars s->op<t.Z.length->iT t s op->(mT S).getD (φ s).toNat O.dflt<=qu t op+(mT S).getD (φ (cd t s op)).toNat O.dflt) /\
  ∀ s,ab t.vars s->bZ s t.aG->(mT S).getD (φ s).toNat O.dflt=0:=by
 have v:(S.aR.length:Int)=S.st:=hv.2.2.2.2.1;have h1:=hv.1;obtain⟨d,n,q⟩:=OG (Jy hv) (fr:=gN S.aR S.aR.length) (F5 _) (fun i e=>by have:=Dn.1 e;omega);have z:mT S=(oU (cu (jD S true)) dX (fo S.st.toNat (gN S.aR S.aR.length))).out:=rfl;rw[z];generalize oU (cu (jD S true)) dX (fo S.st.toNat (gN S.aR S.aR.length))=F at d n q ⊢;refine⟨fun i=>?_,fun s op b j C=>?_,fun s b D=>?_⟩
 ·by_cases e:i<S.st.toNat
  ·exact d.ob i e
  rw[iB,uE (by rw[d.ol];omega)];exact⟨du _,dc⟩
 ·have hm:=h.up s op b j C
  have r:=h.dC s b;have G:=h.dC _ (r6 I b j);have m:ni (jD S true) (sO S true ⟨φ s,(op:Int),φ (cd t s op)⟩):=by
   refine⟨?_,G.1,?_⟩
   ·exact(Ad (g:=fun a:fW=>a.ba) (l:=S.aB.map (sO S true)) (x:=(φ (cd t s op)).toNat) U).2 ⟨iQ.2 ⟨_,hm,rfl⟩,by show φ (cd t s op)=_;omega⟩
   show φ (cd t s op)<((jD S true).length:Int);rw[show (jD S true).length=S.st.toNat from yK];omega
  have K:=n _ m;have L:S.aT.getD op O.dflt=qu t op:=by rw[h.aO,tC j];rfl
  have N:F.out.getD (φ s).toNat O.dflt<=F.out.getD (φ (cd t s op)).toNat O.dflt+S.aT.getD ((op:Int)).toNat O.dflt:=K;rw[gY,L]at N;omega
 have r:=h.dC s b;exact q _ (Dn.2 ⟨r.1,U,h.aG s b D⟩)
end
def u_ {t:aa}(I:aC t)(a:eL t M'=0):Bs t (sH t M')/\E5 t (sH t M')/\∀ s,ab t.vars s->bZ s t.aG->sH t M' s=0:=by
 obtain⟨hv,b⟩:=s_ I a;obtain⟨h1,d,e⟩:=t_ I b hv;exact⟨⟨I,fun y=>(h1 _).1,fun y=>(h1 _).2⟩,d,e⟩
def v_ {t:aa}{H:J->Int}(I:aC t)(g:E5 t H)(h:∀ s,ab t.vars s->bZ s t.aG->H s=0){q:J}{d:Int}(b:lu t y q d)(a:ab t.vars y):H y<=d:=by
 induction b with
 | aG i=>rw[h _ a i];exact du _
 | @step y op q d e j b l =>
  have h1:=l (r6 I a e);have m:=g y op a e j;omega
def Ċ {t:aa}{H:J->Int}{b:Int}(hH:H y<=bD)(a:∀ q d,lu t y q d->H y<=d)(e:AO t y b):H y<=b:=by
 by_cases g:b<bD
 ·obtain⟨p,h⟩:=e.uL g
  exact a p b h
 omega
section
variable {t:aa}{s out:J}
def Ub (I:aC t)(D:ab t.vars s)(h:gV t s out){v:Int}(N:jK (bS t) (mb t.vars s) f v):0<=f->f<aS t->v=dg out f->0<v->v<bD->∃ g:Int,0<=g/\g<aS t/\dg out g<v/\v<=dg out g+1048576:=by
 have F:=uM I
 induction N with
 | start _=>intro _ _ _ G;omega
 | @iI i K m q hm L eH P =>
  intro G h1 he hv Q;have hc:=F.aO i q;have d:=F.aw i q;by_cases hex:∃ n∈(un (bS t) i).aw,dg out n=m
  ·obtain⟨n,a,j⟩:=hex
   have b:=d n a;by_cases r:(un (bS t) i).aO=0
   ·have l:=h.low n (K n) (L n a) b.1 b.2
    have z:=eH n a;obtain⟨g,g1,g2,g3,g4⟩:=P n a b.1 b.2 U U U;exact⟨g,g1,g2,U,U⟩
   exact⟨n,b.1,b.2,U,U⟩
  have b:∀ n∈(un (bS t) i).aw,dg out n<m:=fun n a=>by
   have l:=h.low n (K n) (L n a) (d n a).1 (d n a).2;have z:=eH n a;have r:dg out n≠m:=fun e=>hex ⟨n,a,e⟩;omega
  by_cases R:0<m
  ·have j:jK (bS t) (mb t.vars s) (un (bS t) i).aK ((un (bS t) i).aO+(m-1)):=.iI (v:=fun n=>dg out n) q U (fun n a=>h.qD n (d n a).1 (d n a).2 (by have:=b n a;omega)) (fun n a=>by have:=b n a;show dg out n<=m-1;omega)
   have l:=h.low _ _ j G h1;omega
  have j:0<t.vars.length:=by
   refine OW fun e=>?_;have r:=tx I;rw[e]at r;have T:bC t.vars 0=0:=Tu _;omega
  have z:mb t.vars s (bC t.vars 0+s.getD 0 O.dflt):=⟨0,j,rfl⟩
  have j':=D.1;have l:=D.2 0 U;have C:=Ey I.pos j l.1 l.2;have r:=tx I;have T:=h.low _ 0 (.start z) C.1 U;have h7:=h.dC (bC t.vars 0+s.getD 0 O.dflt) C.1 U;exact⟨_,C.1,U,U,U⟩
def wZ (out:J)(N:Nat)(x:Int):Nat:=(List.range N).countP fun (g:Nat)=>decide (dg out (g:Int)<x)
def Uc (I:aC t)(d:ab t.vars s)(h:gV t s out):∀ (m:Nat) (f:Int),0<=f->f<aS t->dg out f<bD->wZ out (aS t) (dg out f)<=m->dg out f<=1048576*(m:Int):=by
 intro m
 induction m with
 | zero =>
  intro f b h1 a i;refine rY.1 fun e=>?_;obtain⟨g,g1,g2,g3,g4⟩:=Ub I d h (h.qD f b h1 a) b h1 rfl U a;have:0<wZ out (aS t) (dg out f):=IF.2 ⟨g.toNat,mem_range.2 U,by rw[fZ g1];exact dY g3⟩
  omega
 | succ m j =>
  intro f b h1 a i;by_cases e:0<dg out f
  ·obtain⟨g,g1,g2,g3,g4⟩:=Ub I d h (h.qD f b h1 a) b h1 rfl e a
   have l:wZ out (aS t) (dg out g)<wZ out (aS t) (dg out f):=by
    refine T5 (fun x _ hx=>?_) ⟨g.toNat,mem_range.2 U,by rw[fZ g1];exact dY g3,by rw[fZ g1];exact eA (GO _)⟩;have:=vX hx;exact dY U
   have:=j g g1 g2 U U;omega
  omega
def Ud (out:J)(N:Nat)(x:Int):wZ out N x<=N:=by
 have h:=countP_le_length (p:=fun g:Nat=>decide (dg out (g:Int)<x)) (l:=List.range N);rw[length_range]at h;exact h
end
def Nz {t:aa}(I:aC t):∀ y,cw t y<bD->cw t y<=4294967296:=fun y a=>by
 by_cases b:ab t.vars y
 ·obtain⟨out,h⟩:=Ap I y
  rw[yS b h]at a ⊢;refine(yR dc).2 fun f d=>?_;have h1:dg out (dG t.vars f)<=cW t.vars t.aG out:=(yR (Ao _ _ _)).1 (du _) f d;obtain⟨i,g,e⟩:=fF d;have bI:=(I.aG i g).1;rw[al g,e]at bI;have j:=vC I.pos bI;have n:=tx I;have l:=Af I;have m:=Ud out (aS t) (dg out (dG t.vars f));have q:=Uc I b h (aS t) _ j.1 U U m;omega
 rw[AW b];decide
def jx (V l:J)(f:Int):Prop:=f∈l/\∀ g∈l,dg V g<dg V f\/(dg V g=dg V f/\f<=g)
def CQ {V l:J}{d:Int}(h:jx V l f)(e:jx V l d):f=d:=by
 rcases h.2 d e.1 with a|a<;>rcases e.2 f h.1 with b|b<;>omega
def CT {V:J}:∀ {l:J},l≠[]->∃ f,jx V l f
 | [],h=>absurd rfl h
 | [x],_=>⟨x,gA,fun g I=>by rw[dp.1 I];exact .inr ⟨rfl,du _⟩⟩
 | x::y::l,_=>by
  obtain⟨f,h1,a⟩:=CT (V:=V) (l:=y::l) sm;by_cases hx:dg V f<dg V x\/(dg V f=dg V x/\x<=f)
  ·refine⟨x,gA,fun g I=>?_⟩
   rcases dZ.1 I with e|I
   ·rw[e];exact .inr ⟨rfl,du _⟩
   rcases a g I with b|b<;>omega
  refine⟨f,iR _ h1,fun g I=>?_⟩;rcases dZ.1 I with e|I
  ·rw[e];omega
  exact a g I
def jx.ge {V l:J}{g:Int}(h:jx V l f)(I:g∈l):dg V g<=dg V f:=by
 rcases h.2 g I with a|a<;>omega
def qi (V l:J):Prop:=∀ g∈l,dg V g<bD
inductive ZT (t:aa) (V:J) (g0:Int):Int->Prop
 | aG:ZT t V g0 g0
 | step {u:Un}{f:Int}:u∈bS t->qi V u.aw->jx V u.aw f->u.aO=0->ZT t V g0 u.aK->ZT t V g0 f
inductive ZS (t:aa) (s V:J) (g0:Int):Int->Prop
 | st {f:Int}:mb t.vars s f->ZS t s V g0 f
 | start {u:Un}:u∈bS t->u.aw=[]->¬ZT t V g0 u.aK->ZS t s V g0 u.aK
 | step {u:Un}{f:Int}:u∈bS t->qi V u.aw->jx V u.aw f->ZS t s V g0 f->¬ZT t V g0 u.aK->ZS t s V g0 u.aK
def zn (t:aa)(s V:J)(g0:Int)(u:Un):Prop:=qi V u.aw/\(u.aw=[]\/∃ f,jx V u.aw f/\ZS t s V g0 f)/\ZT t V g0 u.aK
def jc (t:aa)(s V:J)(g0:Int)(i:Nat):Prop:=∃ u∈bS t,u.op=(i:Int)/\zn t s V g0 u
def dz (t:aa):J:=t.aG.map (dG t.vars)
structure gE (t:aa) (s V:J) (g0:Int):Prop where
 I:aC t
 hs:ab t.vars s
 hm:gV t s V
 g:jx V (dz t) g0
 pos:0<dg V g0
 ow:dg V g0<bD
def uZ {t:aa}(h:u∈bS t):∃ i:Nat,i<(bS t).length/\un (bS t) i=u:=by
 obtain⟨i,a,he⟩:=fF h;exact⟨i,a,by unfold un;rw[gY,al a];exact he⟩
def yW {t:aa}{s:J}(I:aC t)(b:ab t.vars s)(h:mb t.vars s f):0<=f/\f<aS t:=by
 obtain⟨v,hv,rfl⟩:=h;have d:=b.1;have a:=b.2 v U;have e:=Ey I.pos hv a.1 a.2;have:=tx I;omega
section
variable {t:aa}{s V:J}{g0:Int}
def gE.jb (c:gE t s V g0)(b:0<=f)(h1:f<aS t)(a:dg V f<bD):dg V f<=4294967296:=by
 have d:=Ud V (aS t) (dg V f);have e:=Af c.I;have:=Uc c.I c.hs c.hm (aS t) f b h1 a d;omega
def gE.iI (c:gE t s V g0){u:Un}(hu:u∈bS t)(g:qi V u.aw){m:Int}(hm:0<=m)(eH:∀ n∈u.aw,dg V n<=m):0<=u.aK/\u.aK<aS t/\dg V u.aK<=u.aO+m:=by
 obtain⟨i,a,rfl⟩:=uZ hu;have b:=uM c.I;have hk:=b.aK i a;refine⟨hk.1,hk.2,c.hm.low _ _ (.iI (v:=fun n=>dg V n) a hm (fun n d=>?_) eH) hk.1 hk.2⟩;have e:=b.aw i a n d;exact c.hm.qD n e.1 e.2 (g n d)
def gE.vP (c:gE t s V g0)(hu:u∈bS t){n:Int}(b:n∈u.aw):(0<=n/\n<aS t)/\0<=dg V n:=by
 obtain⟨i,d,rfl⟩:=uZ hu;have a:=(uM c.I).aw i d n b;exact⟨a,(c.hm.dC n a.1 a.2).1⟩
def gE.aO (c:gE t s V g0){u:Un}(hu:u∈bS t):0<=u.aO/\u.aO<=1048576:=by
 obtain⟨i,a,rfl⟩:=uZ hu;exact(uM c.I).aO i a
def gE.AP (c:gE t s V g0)(h:ZT t V g0 f):dg V g0<=dg V f:=by
 induction h with
 | aG=>exact du _
 | @step u f hu d a e _ g =>
  have b:=c.vP hu a.1;have:=(c.iI hu d (m:=dg V f) b.2 fun n b=>a.ge b).2.2;omega
def gE.vh (c:gE t s V g0)(h:mb t.vars s f):dg V f<=0:=by
 have a:=yW c.I c.hs h;exact c.hm.low f 0 (.start h) a.1 a.2
def gE.BU (c:gE t s V g0)(h:ZS t s V g0 f):¬ZT t V g0 f:=by
 cases h with
 | st h=>intro a;have h1:=c.AP a;have b:=c.vh h;have:=c.pos;omega
 | start _ _ h=>exact h
 | step _ _ _ _ h=>exact h
def gE.xG (c:gE t s V g0)(h:ZS t s V g0 f):(0<=f/\f<aS t)/\dg V f<bD:=by
 have e:bD=1125899906842624:=rfl
 cases h with
 | st h=>exact⟨yW c.I c.hs h,by have:=c.vh h;omega⟩
 | @start u hu a _ =>
  have h1:=c.iI hu (fun n h=>by rw[a]at h;exact absurd h fM) (du 0) (fun n h=>by rw[a]at h;exact absurd h fM);have i:=c.aO hu
  exact⟨⟨h1.1,h1.2.1⟩,U⟩
 | @step u g hu d b _ _ =>
  have a:=c.vP hu b.1;have h1:=c.iI hu d (m:=dg V g) a.2 fun n a=>b.ge a;have i:=c.aO hu;have l:=c.jb a.1.1 a.1.2 (d g b.1);exact⟨⟨h1.1,h1.2.1⟩,U⟩
def gE.zq (c:gE t s V g0)(hu:u∈bS t)(h:zn t s V g0 u):0<u.aO:=by
 obtain⟨g,a,i⟩:=h;have l:=c.aO hu;refine xS.1 fun m=>?_;have b:u.aO=0:=U;rcases a with j|⟨f,d,e⟩
 ·have h1:=c.iI hu g (du 0) (fun n h=>by rw[j]at h;exact absurd h fM)
  have q:=c.AP i;have:=c.pos;omega
 exact c.BU e (.step hu g d b i)
def gE.some (c:gE t s V g0):∃ u∈bS t,zn t s V g0 u:=by
 refine nl fun r=>?_;have d:∀ u∈bS t,¬zn t s V g0 u:=fun u hu h=>r ⟨u,hu,h⟩;have key:∀ {f v:Int},jK (bS t) (mb t.vars s) f v->ZS t s V g0 f:=by
  intro f v D
  induction D with
  | start h=>exact .st h
  | @iI i F m q hm G eH C =>
   have hu:un (bS t) i∈bS t:=yU q;have a:qi V (un (bS t) i).aw:=fun n z=>(c.xG (C n z)).2;by_cases b:(un (bS t) i).aw=[]
   ·by_cases j:ZT t V g0 (un (bS t) i).aK
    ·exact absurd ⟨a,.inl b,j⟩ (d _ hu)
    exact .start hu b j
   obtain⟨f,e⟩:=CT (V:=V) b;have l:=C f e.1;by_cases j:ZT t V g0 (un (bS t) i).aK
   ·exact absurd ⟨a,.inr ⟨f,e,l⟩,j⟩ (d _ hu)
   exact .step hu a e l j
 obtain⟨f,b,he⟩:=iQ.1 c.g.1;obtain⟨i,q,e⟩:=fF b;have bI:=(c.I.aG i q).1;rw[al q,e]at bI;have a:=vC c.I.pos bI;have j:=tx c.I;rw[he]at a;exact c.BU (key (c.hm.qD g0 a.1 U c.ow)) .aG
def gE.y6 (c:gE t s V g0)(Q:lu t y p k):ab t.vars y->(∀ f,mb t.vars y f->ZS t s V g0 f)->∃ op:Nat,(op:Int)∈p/\op<t.Z.length/\jc t s V g0 op:=by
 induction Q with
 | @aG y R =>
  intro r G;obtain⟨f,z,he⟩:=iQ.1 c.g.1;have h1:=G _ (C6 r (As R z));rw[he]at h1
  exact absurd .aG (c.BU h1)
 | @step y op p k K T _ ih =>
  intro r G;by_cases a:jc t s V g0 op
  ·exact⟨op,gA,K,a⟩
  have L:=c.I.op op K;obtain⟨q,h1,h2,h3⟩:=ih (r6 c.I r K) fun f z=>by
   obtain⟨v,hv,rfl⟩:=z;have N:v<y.length:=by rw[r.1];exact hv
   rcases Lr (s:=y) (l:=(t.Z.getD op bf).aJ) (fun e he=>by have:=tz (L.mem e he);rw[r.1];exact⟨this.1,this.2.1⟩) N with e|⟨k,hk,e1,e2,e3⟩
   ·exact G _ ⟨v,hv,by rw[<-e];rfl⟩
   obtain⟨i,hi,C⟩:=Tv K hk;have hu:un (bS t) i∈bS t:=yU hi;have P:(un (bS t) i).aK=bC t.vars v+(cd t y op).getD v O.dflt:=by
    rw[C];show bC t.vars ((t.Z.getD op bf).aJ.getD k bE).var.toNat+((t.Z.getD op bf).aJ.getD k bE).val=_;rw[e1,e2,gY];rfl
   have F:(un (bS t) i).op=(op:Int):=by rw[C];rfl
   have D:∀ n∈(un (bS t) i).aw,ZS t s V g0 n:=fun n m=>by
    refine G n ?_;rw[C]at m;rcases x8.1 m with m|⟨f,z,rfl⟩
    ·rcases x8.1 m with m|⟨f,z,rfl⟩
     ·simp at m
     exact C6 r (As T z)
    exact C6 r (As e3 z)
   have b:qi V (un (bS t) i).aw:=fun n m=>(c.xG (D n m)).2;rw[<-P];by_cases d:(un (bS t) i).aw=[]
   ·by_cases h:ZT t V g0 (un (bS t) i).aK
    ·exact absurd ⟨_,hu,F,b,.inl d,h⟩ a
    exact .start hu d h
   obtain⟨f,j⟩:=CT (V:=V) d;by_cases h:ZT t V g0 (un (bS t) i).aK
   ·exact absurd ⟨_,hu,F,b,.inr ⟨f,j,D f j.1⟩,h⟩ a
   exact .step hu b j (D f j.1) h
  exact⟨q,iR _ h1,h2,h3⟩
end
end Go.Proofs.YtmapkjoefdgjfaaGreatDoor
