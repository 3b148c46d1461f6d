/- Several texts. -/
import Derived.Test.YtmapkjoefdgjfaaGreatDoorMW11H
set_option linter.unusedSimpArgs false
set_option linter.unusedVariables false
set_option linter.defProp false
set_option maxRecDepth 8000
set_option maxHeartbeats 16000000
open List Nat
namespace Go.Proofs.YtmapkjoefdgjfaaGreatDoor
open Go.Sl
variable {f k x M':Int}{p c y:J}{u:Un}
section
variable {t:aa}
def tC (t:aa):(ao t).length=t.M.length:=by simp[ao]
def zp (I:aJ t):∀ x∈ao t,0<=x/\x<=1048576:=fun x hx=>by
 obtain⟨i,b,rfl⟩:=ga hx;have a:i<t.M.length:=by rw[tC]at b;exact b
 rw[<-aq (d:=W.dflt) b,tD a];exact⟨(I.op i a).l9,(I.op i a).pG⟩
def qx1 (I:aJ t){s:J}{c:Int}(h:mg t s p c):aj t.vars s->(lK (cO t) (ao t) (j4 t)) (dO t.vars s) c:=by
 induction h with
 | @aF s i =>
  intro a;refine .aF ?_;unfold j4;rw[(Gf I.pos a).2]
  exact i
 | @step s op p c b m _ j =>
  intro a;have d:=sb I a b;have h1:=j d;have e:=Gf I.pos a;have l:=zO a;have hm:(⟨((dO t.vars s).toNat:Int),(op:Int),dO t.vars (cD t s op)⟩:dr)∈cO t:=Ng.2 ⟨(dO t.vars s).toNat,op,e.1,b,by grind,by rw[e.2]⟩;have g:=lK.step hm h1;simp only[iS,jU,tD b]at g
  rwa[jW l.1]at g
def qx2 (I:aJ t){i:Int}(Y:(lK (cO t) (ao t) (j4 t)) i k):0<=i->i<(aP t.vars).length->∃ p,mg t ((aP t.vars).getD i.toNat []) p k:=by
 induction Y with
 | @aF a j=>exact fun _ _=>⟨[],.aF j⟩
 | @step e k he _ l =>
  intro v h1;obtain⟨i,op,m,d,n,rfl⟩:=Ng.1 he;have g:=(Fq I.pos m).1;have b:=sb I g d;have q:=Gf I.pos b;have r:=zO b;obtain⟨p,h⟩:=l r.1 (by grind);simp only[q.2]at h;refine⟨(op:Int)::p,?_⟩;simp only[jU,iS,tD d];exact .step d n h
structure Ci (t:aa) (s:J) (b:Int):Prop where
 le:b<=bZ
 nn:0<=b
 ww:b<bZ->∃ p,mg t s p b
 low:∀ p c,mg t s p c->b<=c/\b<bZ
def Zv (I:aJ t){D:J}(l:(aP t.vars).length<=512)(b:db (cO t) (ao t) (j4 t) (aP t.vars).length D){s:J}(g:aj t.vars s):Ci t s (D.getD (dO t.vars s).toNat W.dflt):=by
 have d:=Gf I.pos g;have m:=zO g;have j:pR (cO t) (ao t) (aP t.vars).length:=B9 I ⟨tC t,fun x hx=>by have:=zp I x hx;omega⟩;have e:dg D ((dO t.vars s).toNat:Int)=D.getD (dO t.vars s).toNat W.dflt:=by unfold dg;rw[jU]
 have a:=b.et _ d.1;rw[e]at a;refine⟨a.2,a.1,fun h=>?_,fun p c i=>?_⟩
 ·have h1:=b.ww _ d.1 U
  rw[e]at h1;obtain⟨p,i⟩:=qx2 I h1 U U
  grind
 have Y:=qx1 I i g;have h1:dg D ((dO t.vars s).toNat:Int)<=c:=b.low _ d.1 c (by grind);have n:=(b.qE j (C:=1048576) dc (fun x hx=>(zp I x hx).2) (by grind) d.1).2 ⟨c,by grind⟩;omega
variable {H:J->Int}{lim:Nat}
end
def Vu {α:Type}[DecidableEq α]:∀ {l m:List α},l.Nodup->(∀ x∈l,x∈m)->l.length<=m.length
 | [],_,_,_=>bC _
 | x::l,m,b,a=>by
  obtain⟨h1,d⟩:=wW.1 b;have hx:=a x ku;have g:∀ y∈l,y∈m.erase x:=fun y h=>(Mk (fun e=>h1 (by grind))).2 (a y (nt _ h));have i:=Vu d g
  grind
def W9 {α:Type}{P Q:α->Bool}:∀ {l:List α},(∀ x∈l,P x=true->Q x=true)->(∃ x∈l,Q x=true/\P x=false)->l.countP P<l.countP Q
 | [],_,h=>by grind
 | y::l,h1,a=>by
  have hm:l.countP P<=l.countP Q:=countP_mono_left fun x hx=>h1 x (nt _ hx);rw[countP_cons,countP_cons];obtain⟨x,hx,b,d⟩:=a;rcases gT.1 hx with rfl|hx
  ·grind
  have e:=W9 (fun x hx=>h1 x (nt _ hx)) ⟨x,hx,b,d⟩
  grind
section
variable {A:GY}
end
section
variable {A:GY}
def vw (t:aa)(H:J->Int):Prop:=∀ s op,aj t.vars s->op<t.M.length->jZ t s op->H s<=oF t op+H (cD t s op)
end
structure nQ (t:aa) (S:ct) (φ:J->Int):Prop where
 et:∀ s,aj t.vars s->0<=φ s/\φ s<S.st
 aT:S.aN=ao t
 vT:∀ s op,aj t.vars s->op<t.M.length->jZ t s op->(⟨φ s,(op:Int),φ (cD t s op)⟩:dr)∈S.aH
 aF:∀ s,aj t.vars s->cE s t.aF->S.aW.getD (φ s).toNat ah.dflt=true
section
variable {t:aa}{S A B:ct}{φ o:J->Int}
def nQ.congr (h:nQ t S φ)(I:aJ t)(he:∀ s,aj t.vars s->o s=φ s):nQ t S o where
 et s a:=by rw[he s a];exact h.et s a
 aT:=h.aT
 vT s op a b d:=by rw[he s a,he _ (sb I a b)];exact h.vT s op a b d
 aF s a e:=by rw[he s a];exact h.aF s a e
def OU (I:aJ t)(d:∀ v∈p,0<=v/\v<t.vars.length):nQ t (dY t p) (cy t.vars p) where
 et s b:=qF b d
 aT:=rfl
 vT s op b e g:=EY.2 ⟨_,op,_,qF b d,e,qF (sb I b e) d,⟨s,b,rfl,g,rfl⟩,rfl⟩
 aF s b h:=by
  have j:=qF b d;have h1:=Ux (t:=t) (p:=p) (k:=(bG t.vars p).toNat) (a:=(cy t.vars p s).toNat) U;have i:nY t p (((cy t.vars p s).toNat:Nat):Int)=true:=Nh.2 ⟨s,b,U,yq.2 fun x hx=>yq.1 h x (wT.1 hx).1⟩;exact h1.trans i
def qwh (h:jY S=true):cW S:=oE fun a=>by rw[xP a]at h;cases h
def qAV (a:eU S c=0):cW S/\0<=nJ c S.st/\gK c S.st (nJ c S.st):=by
 unfold eU at a;by_cases h:jY S=true/\mG c S.st=true
 ·exact⟨qwh h.1,Xa h.2⟩
 grind
def GG {n:Int}(h:gK c n k)(a:0<=x)(h1:x<n):0<=c.getD x.toNat W.dflt/\c.getD x.toNat W.dflt<k:=by
 obtain⟨c1,c2,b,_⟩:=h
 simp_all
def qzu (h:nQ t S φ)(I:aJ t)(b:eU S c=0):nQ t (jK S c) (fun s=>c.getD (φ s).toNat W.dflt):=by
 obtain⟨hv,hk,d⟩:=qAV b;have g:jK S c=⟨nJ c S.st,c.getD S.cj.toNat W.dflt,S.aN,ml (gF fE (S.aH.map (qT c))),qo S.aW c (nJ c S.st).toNat⟩:=by unfold jK;rw[ba b]
 rw[g];refine⟨fun s a=>?_,h.aT,fun s op a i j=>?_,fun s a l=>?_⟩
 ·have:=h.et s a
  exact GG d this.1 this.2
 ·exact JS.2 ((GB qk).2 (iG.2 ⟨_,h.vT s op a i j,rfl⟩))
 have e:=h.et s a;have hx:=GG d e.1 e.2;have m:(S.aW.length:Int)=S.st:=hv.2.2.2.2.1;show (jg S.aW c (nJ c S.st).toNat S.aW.length).getD (c.getD (φ s).toNat W.dflt).toNat ah.dflt=true;rw[Ji U,any_eq_true];refine⟨(φ s).toNat,by grind,?_⟩;rw[Bool.and_eq_true,jV];exact⟨U,h.aF s a l⟩
def Xb {i j:Nat}(a:j<B.st.toNat):∀ {m:Nat},i<m->(ni A B m).getD (i*B.st.toNat+j) ah.dflt=(A.aW.getD i ah.dflt && B.aW.getD j ah.dflt)
 | 0,h=>absurd h (eo _)
 | m+1,h=>by
  have b:=Jf A B m;rw[MQ,ow];by_cases e:i<m
  ·have h1:(i+1)*B.st.toNat<=m*B.st.toNat:=wm _ e
   rw[r8,x8]at h1;rw[mu U,<-ow];exact Xb a e
  have d:i=m:=U;subst d;rw[lP U,b,Mb];simp[qm,a]
def qAW (a:dG A B=0):cW A/\cW B/\A.aN=B.aN/\A.st*B.st<=4096/\AW A B<=65536:=by
 unfold dG at a
 grind
def GH {y a b:Int}(d:0<=x)(hx:x<a)(e:0<=y)(g:y<b):0<=x*b+y/\x*b+y<a*b:=by
 have h1:0<=x*b:=vX d U;have h:(x+1)*b<=a*b:=zF U U
 grind
def qzv (d:nQ t A φ)(h:nQ t B o)(l:dG A B=0):nQ t (iM A B) (fun s=>φ s*B.st+o s):=by
 obtain⟨q,r,v,z,C⟩:=qAW l;have D:iM A B=⟨A.st*B.st,A.cj*B.st+B.cj,A.aN,gF fE (nK A B),nL A B⟩:=by unfold iM;rw[ba l]
 rw[D];refine⟨fun s a=>?_,d.aT,fun s op a i b=>?_,fun s a m=>?_⟩
 ·have h1:=d.et s a
  have j:=h.et s a;exact GH h1.1 h1.2 j.1 j.2
 ·have n:op<A.aN.length:=by rw[d.aT,tC];exact i
  refine(GB qk).2 (tN.2 ⟨op,mem_range.2 n,tN.2 ⟨⟨φ s,(op:Int),φ (cD t s op)⟩,?_,iG.2 ⟨⟨o s,(op:Int),o (cD t s op)⟩,?_,rfl⟩⟩⟩)
  ·exact(Aw (g:=fun e:dr=>e.cU) n).2 ⟨d.vT s op a i b,rfl⟩
  exact(Aw (g:=fun e:dr=>e.cU) (by grind)).2 ⟨h.vT s op a i b,rfl⟩
 have h1:=d.et s a;have j:=h.et s a;have n:(φ s*B.st+o s).toNat=(φ s).toNat*B.st.toNat+(o s).toNat:=by
  have hm:0<=φ s*B.st:=vX h1.1 U;have F:(((φ s).toNat*B.st.toNat:Nat):Int)=φ s*B.st:=by
   rw[D8,jW h1.1,jW U]
  omega
 show (ni A B A.st.toNat).getD (φ s*B.st+o s).toNat ah.dflt=true;rw[n,Xb U U,d.aF s a m,h.aF s a m];rfl
def qzw {n:Nat}(a:0<=x)(h1:x<n):(dI n).getD x.toNat W.dflt=x:=by
 have h:x.toNat<n:=U;simp[dI,List.getD,h];omega
def OV (h:nQ t S φ)(I:aJ t)(a:cK S M'=0):nQ t (dV S M') (fun s=>(gP S M').getD (φ s).toNat W.dflt):=by
 by_cases hm:S.st<=M'
 ·have b:gP S M'=dI S.st.toNat:=by unfold gP;rw[ba hm]
  have d:dV S M'=S:=by unfold dV;rw[ba hm]
  rw[b,d];refine h.congr I fun s e=>?_;have:=h.et s e;exact qzw this.1 U
 by_cases hv:cW S
 ·have b:gP S M'=iy S M':=by unfold gP;rw[aM hm,ba hv]
  have d:dV S M'=jK S (iy S M'):=by unfold dV;rw[aM hm,ba hv]
  have e:eU S (iy S M')=0:=by unfold cK at a;rwa[aM hm,ba hv]at a
  rw[b,d];exact qzu h I e
 unfold cK at a
 grind
def Xc {vars s:J}{v:Int}:cy vars [v] s=sg s v:=by
 simp[cy,gJ,dO,mN]
def Xd {M':Int}(I:aJ t):∀ k,k<t.vars.length->(kb t M' (k+1)).vg=0->(kb t M' (k+1)).fp≠[]/\nQ t (kb t M' (k+1)).eY (fun s=>qH s (kb t M' (k+1)).fp)
 | 0,hk,he=>by
  have b:∀ v∈[(0:Int)],0<=v/\v<t.vars.length:=fun v hv=>by grind
  have e:kb t M' 1=nZ t M' 0:=rfl;rw[e]at he ⊢;unfold nZ at he ⊢;by_cases h1:dh t [0]≠0
  ·grind
  rw[aM h1]at he ⊢;by_cases a:cK (dY t [0]) M'≠0
  ·grind
  rw[aM a];have d:=OV (M':=M') (OU I b) I (wn.1 a);refine⟨sm,d.congr I fun s m=>?_⟩;show (gP (dY t [0]) M').getD (s.getD (0:Int).toNat W.dflt).toNat W.dflt=_
  rw[Xc]
 | k+1,hk,he=>by
  have b:∀ v∈[((k+1:Nat):Int)],0<=v/\v<t.vars.length:=fun v hv=>by grind
  have e:kb t M' (k+1+1)=n0 t M' (kb t M' (k+1)) ((k+1:Nat):Int):=rfl;rw[e]at he ⊢;have i:=Xd I k (M':=M') U;generalize kb t M' (k+1)=X' at i he ⊢;generalize hv:((k+1:Nat):Int)=v at b he ⊢;clear hv e;unfold n0 at he ⊢;by_cases j:X'.vg≠0
  ·grind
  rw[aM j]at he ⊢;by_cases h1:dh t [v]≠0
  ·grind
  rw[aM h1]at he ⊢;obtain⟨g,h⟩:=i (wn.1 j);simp only at he ⊢;generalize nq M' X'.eY.st (dY t [v]).st=lr at he ⊢;by_cases a:cK X'.eY lr.1≠0
  ·grind
  rw[aM a]at he ⊢;by_cases d:cK (dY t [v]) lr.2≠0
  ·grind
  rw[aM d]at he ⊢;by_cases l:dG (dV X'.eY lr.1) (dV (dY t [v]) lr.2)≠0
  ·grind
  rw[aM l];have g1:=OV h I (wn.1 a);have g2:=OV (M':=lr.2) (OU I b) I (wn.1 d);have g3:=qzv g1 g2 (wn.1 l);refine⟨sm,g3.congr I fun s m=>?_⟩;show qH s (X'.fp++[_])=_;rw[OW g,Xc]
def qzx (I:aJ t)(a:fa t M'=0):cW (kb t (lX M') t.vars.length).eY/\nQ t (kb t (lX M') t.vars.length).eY (fun s=>qH s (sX t M')):=by
 unfold fa at a;by_cases h1:(kb t (lX M') t.vars.length).vg≠0
 ·omega
 rw[aM h1]at a;by_cases b:cW (kb t (lX M') t.vars.length).eY;rotate_left
 ·grind
 refine⟨b,?_⟩;unfold sX
 cases d:t.vars.length with
 | zero =>
  rw[d]at h1 b;have e:dh t []=0:=wn.1 h1;have g:(kb t (lX M') 0).eY=dY t []:=by show kQ t [] (dh t [])=_;unfold kQ;rw[ba e]
  rw[g]
  refine(OU I (p:=[]) fun v hv=>absurd hv jd).congr I fun s h=>rfl
 | succ k =>
  rw[d]at h1;exact(Xd I k U (wn.1 h1)).2
def qzy (I:aJ t)(h:nQ t S φ)(hv:cW S):(∀ i:Nat,0<=(oN S).getD i W.dflt/\(oN S).getD i W.dflt<=bZ) /\
  (∀ s op,aj t.vars s->op<t.M.length->jZ t s op->(oN S).getD (φ s).toNat W.dflt<=oF t op+(oN S).getD (φ (cD t s op)).toNat W.dflt) /\
  ∀ s,aj t.vars s->cE s t.aF->(oN S).getD (φ s).toNat W.dflt=0:=by
 have v:(S.aW.length:Int)=S.st:=hv.2.2.2.2.1;have h1:=hv.1;obtain⟨d,n,q⟩:=Q4 (Lt hv) (fr:=iN S.aW S.aW.length) (H0 _) (fun i e=>by have:=Fc.1 e;omega);have z:oN S=(qy (cQ (kJ S true)) fb (fZ S.st.toNat (iN S.aW S.aW.length))).out:=rfl;rw[z];generalize qy (cQ (kJ S true)) fb (fZ S.st.toNat (iN S.aW S.aW.length))=F at d n q ⊢;refine⟨fun i=>?_,fun s op b j C=>?_,fun s b D=>?_⟩
 ·by_cases e:i<S.st.toNat
  ·exact d.ob i e
  rw[ow,xS (by rw[d.ol];omega)];exact⟨iq _,dc⟩
 ·have hm:=h.vT s op b j C
  have r:=h.et s b;have G:=h.et _ (sb I b j);have m:pj (kJ S true) (ul S true ⟨φ s,(op:Int),φ (cD t s op)⟩):=by
   refine⟨?_,G.1,?_⟩
   ·exact(Aw (g:=fun a:gR=>a.br) (l:=S.aH.map (ul S true)) (x:=(φ (cD t s op)).toNat) U).2 ⟨iG.2 ⟨_,hm,rfl⟩,by show φ (cD t s op)=_;omega⟩
   show φ (cD t s op)<((kJ S true).length:Int);rw[show (kJ S true).length=S.st.toNat from Av];omega
  have K:=n _ m;have L:S.aN.getD op W.dflt=oF t op:=by rw[h.aT,tD j];rfl
  have N:F.out.getD (φ s).toNat W.dflt<=F.out.getD (φ (cD t s op)).toNat W.dflt+S.aN.getD ((op:Int)).toNat W.dflt:=K
  grind
 have r:=h.et s b;exact q _ (Fc.2 ⟨r.1,U,h.aF s b D⟩)
end
def RC {t:aa}(I:aJ t)(a:fa t M'=0):CQ t (oQ t M')/\vw t (oQ t M')/\∀ s,aj t.vars s->cE s t.aF->oQ t M' s=0:=by
 obtain⟨hv,b⟩:=qzx I a;obtain⟨h1,d,e⟩:=qzy I b hv;exact⟨⟨I,fun y=>(h1 _).1,fun y=>(h1 _).2⟩,d,e⟩
def qwi {t:aa}{H:J->Int}(I:aJ t)(g:vw t H)(j:∀ s,aj t.vars s->cE s t.aF->H s=0){q:J}{d:Int}(a:mg t y q d)(b:aj t.vars y):H y<=d:=by
 induction a with
 | aF l=>grind
 | @step y op q d e h a i =>
  have h1:=i (sb I b e);have m:=g y op b e h;omega
def Zw {t:aa}{H:J->Int}{b:Int}(hH:H y<=bZ)(g:∀ q d,mg t y q d->H y<=d)(a:Ci t y b):H y<=b:=by
 by_cases e:b<bZ
 ·obtain⟨p,h⟩:=a.ww e
  grind
 omega
section
variable {t:aa}{s out:J}
def Xe (I:aJ t)(r:aj t.vars s)(h:iL t s out){v:Int}(L:lC (cz t) (oH t.vars s) f v):0<=f->f<aZ t->v=dg out f->0<v->v<bZ->∃ g:Int,0<=g/\g<aZ t/\dg out g<v/\v<=dg out g+1048576:=by
 have z:=wk I
 induction L with
 | start _=>omega
 | @kg i C m l hm D fh N =>
  intro P h1 he hv Q;have hc:=z.aT i l;have d:=z.aG i l;by_cases hex:∃ n∈(un (cz t) i).aG,dg out n=m
  ·obtain⟨n,a,q⟩:=hex
   have b:=d n a;by_cases F:(un (cz t) i).aT=0
   ·have j:=h.low n (C n) (D n a) b.1 b.2
    have G:=fh n a;obtain⟨g,g1,g2,g3,g4⟩:=N n a b.1 b.2 U U U
    grind
   exact⟨n,b.1,b.2,U,U⟩
  have F:∀ n∈(un (cz t) i).aG,dg out n<m:=fun n a=>by
   have j:=h.low n (C n) (D n a) (d n a).1 (d n a).2
   grind
  by_cases R:0<m
  ·have b:lC (cz t) (oH t.vars s) (un (cz t) i).aU ((un (cz t) i).aT+(m-1)):=.kg (v:=fun n=>dg out n) l U (fun n a=>h.sd n (d n a).1 (d n a).2 (by grind)) (fun n a=>by grind)
   have j:=h.low _ _ b P h1;omega
  have b:0<t.vars.length:=by
   refine Rv fun e=>?_;have G:=uV I;rw[e]at G;have T:bP t.vars 0=0:=We _;omega
  have q:oH t.vars s (bP t.vars 0+s.getD 0 W.dflt):=⟨0,b,rfl⟩
  have j':=r.1;have j:=r.2 0 U;have K:=GD I.pos b j.1 j.2;have G:=uV I;have T:=h.low _ 0 (.start q) K.1 U;have h7:=h.et (bP t.vars 0+s.getD 0 W.dflt) K.1 U
  grind
def yI (out:J)(N:Nat)(x:Int):Nat:=(List.range N).countP fun (g:Nat)=>decide (dg out (g:Int)<x)
def Xf (I:aJ t)(d:aj t.vars s)(h:iL t s out):∀ (m:Nat) (f:Int),0<=f->f<aZ t->dg out f<bZ->yI out (aZ t) (dg out f)<=m->dg out f<=1048576*(m:Int):=by
 intro m
 induction m with
 | zero =>
  intro f b h1 a i;refine tM.1 fun e=>?_;obtain⟨g,g1,g2,g3,g4⟩:=Xe I d h (h.sd f b h1 a) b h1 rfl U a;have:0<yI out (aZ t) (dg out f):=countP_pos_iff.2 ⟨g.toNat,mem_range.2 U,by grind⟩
  omega
 | succ m l =>
  intro f b h1 a i;by_cases e:0<dg out f
  ·obtain⟨g,g1,g2,g3,g4⟩:=Xe I d h (h.sd f b h1 a) b h1 rfl e a
   have j:yI out (aZ t) (dg out g)<yI out (aZ t) (dg out f):=by
    refine W9 (fun x _ hx=>?_) ⟨g.toNat,mem_range.2 U,by grind,by grind⟩;have:=x5 hx;exact dH U
   grind
  omega
def Xg (out:J)(N:Nat)(x:Int):yI out N x<=N:=by
 have h:=countP_le_length (p:=fun g:Nat=>decide (dg out (g:Int)<x)) (l:=List.range N);rw[E8]at h;exact h
end
def PX {t:aa}(I:aJ t):∀ y,dC t y<bZ->dC t y<=4294967296:=fun y a=>by
 by_cases b:aj t.vars y
 ·obtain⟨out,h⟩:=BR I y
  rw[yf b h]at a ⊢;refine(AC dc).2 fun f d=>?_;have h1:dg out (eC t.vars f)<=dy t.vars t.aF out:=(AC (BQ _ _ _)).1 (iq _) f d;obtain⟨i,g,e⟩:=ga d;have bX:=(I.aF i g).1;rw[aq g,e]at bX;have j:=xh I.pos bX;have n:=uV I;have l:=BG I;have m:=Xg out (aZ t) (dg out (eC t.vars f));have q:=Xf I b h (aZ t) _ j.1 U U m;omega
 rw[Cm b];decide
def Ç {t:aa}(I:aJ t):vw t (dC t):=fun _ _ a b d=>HI I a b d
def kD (V l:J)(f:Int):Prop:=f∈l/\∀ g∈l,dg V g<dg V f\/(dg V g=dg V f/\f<=g)
def EB {V l:J}{d:Int}(h:kD V l f)(e:kD V l d):f=d:=by
 rcases h.2 d e.1 with a|a<;>rcases e.2 f h.1 with b|b<;>omega
def ED {V:J}:∀ {l:J},l≠[]->∃ f,kD V l f
 | [],h=>absurd rfl h
 | [x],_=>⟨x,ku,fun g I=>by grind⟩
 | x::y::l,_=>by
  obtain⟨f,h1,a⟩:=ED (V:=V) (l:=y::l) sm;by_cases hx:dg V f<dg V x\/(dg V f=dg V x/\x<=f)
  ·refine⟨x,ku,fun g I=>?_⟩
   grind
  refine⟨f,nt _ h1,fun g I=>?_⟩
  grind
def kD.ge {V l:J}{g:Int}(h:kD V l f)(I:g∈l):dg V g<=dg V f:=by
 rcases h.2 g I with a|a<;>omega
def rV (V l:J):Prop:=∀ g∈l,dg V g<bZ
inductive ZT (t:aa) (V:J) (g0:Int):Int->Prop
 | aF:ZT t V g0 g0
 | step {u:Un}{f:Int}:u∈cz t->rV V u.aG->kD V u.aG f->u.aT=0->ZT t V g0 u.aU->ZT t V g0 f
inductive ZS (t:aa) (s V:J) (g0:Int):Int->Prop
 | st {f:Int}:oH t.vars s f->ZS t s V g0 f
 | start {u:Un}:u∈cz t->u.aG=[]->¬ZT t V g0 u.aU->ZS t s V g0 u.aU
 | step {u:Un}{f:Int}:u∈cz t->rV V u.aG->kD V u.aG f->ZS t s V g0 f->¬ZT t V g0 u.aU->ZS t s V g0 u.aU
def A4 (t:aa)(s V:J)(g0:Int)(u:Un):Prop:=rV V u.aG/\(u.aG=[]\/∃ f,kD V u.aG f/\ZS t s V g0 f)/\ZT t V g0 u.aU
def j5 (t:aa)(s V:J)(g0:Int)(i:Nat):Prop:=∃ u∈cz t,u.op=(i:Int)/\A4 t s V g0 u
def eh (t:aa):J:=t.aF.map (eC t.vars)
structure iE (t:aa) (s V:J) (g0:Int):Prop where
 I:aJ t
 hs:aj t.vars s
 hm:iL t s V
 g:kD V (eh t) g0
 pos:0<dg V g0
 qE:dg V g0<bZ
def wI {t:aa}(h:u∈cz t):∃ i:Nat,i<(cz t).length/\un (cz t) i=u:=by
 obtain⟨i,a,he⟩:=ga h;exact⟨i,a,by unfold un;grind⟩
def AI {t:aa}{s:J}(I:aJ t)(b:aj t.vars s)(h:oH t.vars s f):0<=f/\f<aZ t:=by
 obtain⟨v,hv,rfl⟩:=h;have d:=b.1;have a:=b.2 v U;have e:=GD I.pos hv a.1 a.2;have:=uV I;omega
section
variable {t:aa}{s V:J}{g0:Int}
def iE.jQ (c:iE t s V g0)(b:0<=f)(h1:f<aZ t)(a:dg V f<bZ):dg V f<=4294967296:=by
 have d:=Xg V (aZ t) (dg V f);have e:=BG c.I;have:=Xf c.I c.hs c.hm (aZ t) f b h1 a d;omega
def iE.kg (c:iE t s V g0){u:Un}(hu:u∈cz t)(g:rV V u.aG){m:Int}(hm:0<=m)(fh:∀ n∈u.aG,dg V n<=m):0<=u.aU/\u.aU<aZ t/\dg V u.aU<=u.aT+m:=by
 obtain⟨i,a,rfl⟩:=wI hu;have b:=wk c.I;have hk:=b.aU i a;refine⟨hk.1,hk.2,c.hm.low _ _ (.kg (v:=fun n=>dg V n) a hm (fun n d=>?_) fh) hk.1 hk.2⟩;have e:=b.aG i a n d;exact c.hm.sd n e.1 e.2 (g n d)
def iE.xC (c:iE t s V g0)(hu:u∈cz t){n:Int}(b:n∈u.aG):(0<=n/\n<aZ t)/\0<=dg V n:=by
 obtain⟨i,d,rfl⟩:=wI hu;have a:=(wk c.I).aG i d n b;exact⟨a,(c.hm.et n a.1 a.2).1⟩
def iE.aT (c:iE t s V g0){u:Un}(hu:u∈cz t):0<=u.aT/\u.aT<=1048576:=by
 obtain⟨i,a,rfl⟩:=wI hu;exact(wk c.I).aT i a
def iE.Cj (c:iE t s V g0)(h:ZT t V g0 f):dg V g0<=dg V f:=by
 induction h with
 | aF=>omega
 | @step u f hu d a e _ g =>
  have b:=c.xC hu a.1;have:=(c.kg hu d (m:=dg V f) b.2 fun n b=>a.ge b).2.2;omega
def iE.wS (c:iE t s V g0)(h:oH t.vars s f):dg V f<=0:=by
 have a:=AI c.I c.hs h;exact c.hm.low f 0 (.start h) a.1 a.2
def iE.Dl (c:iE t s V g0)(h:ZS t s V g0 f):¬ZT t V g0 f:=by
 cases h with
 | st h=>intro a;have h1:=c.Cj a;have b:=c.wS h;have:=c.pos;omega
 | start _ _ h=>exact h
 | step _ _ _ _ h=>exact h
def iE.zl (c:iE t s V g0)(h:ZS t s V g0 f):(0<=f/\f<aZ t)/\dg V f<bZ:=by
 have e:bZ=1125899906842624:=rfl
 cases h with
 | st h=>exact⟨AI c.I c.hs h,by have:=c.wS h;omega⟩
 | @start u hu b _ =>
  have h1:=c.kg hu (fun n h=>by grind) (iq 0) (fun n h=>by grind);have i:=c.aT hu
  omega
 | @step u g hu d a _ _ =>
  have b:=c.xC hu a.1;have h1:=c.kg hu d (m:=dg V g) b.2 fun n b=>a.ge b;have i:=c.aT hu;have l:=c.jQ b.1.1 b.1.2 (d g a.1);omega
def iE.A7 (c:iE t s V g0)(hu:u∈cz t)(h:A4 t s V g0 u):0<u.aT:=by
 obtain⟨g,a,i⟩:=h;have j:=c.aT hu;refine zH.1 fun l=>?_;have b:u.aT=0:=U;rcases a with m|⟨f,d,e⟩
 ·have h1:=c.kg hu g (iq 0) (fun n h=>by grind)
  have q:=c.Cj i;have:=c.pos;omega
 exact c.Dl e (.step hu g d b i)
def iE.some (c:iE t s V g0):∃ u∈cz t,A4 t s V g0 u:=by
 refine oE fun r=>?_;have d:∀ u∈cz t,¬A4 t s V g0 u:=fun u hu h=>r ⟨u,hu,h⟩;have key:∀ {f v:Int},lC (cz t) (oH t.vars s) f v->ZS t s V g0 f:=by
  intro f v D
  induction D with
  | start h=>exact .st h
  | @kg i F m q hm G fh C =>
   have hu:un (cz t) i∈cz t:=AE q;have a:rV V (un (cz t) i).aG:=fun n z=>(c.zl (C n z)).2;by_cases b:(un (cz t) i).aG=[]
   ·by_cases j:ZT t V g0 (un (cz t) i).aU
    ·exact absurd ⟨a,.inl b,j⟩ (d _ hu)
    exact .start hu b j
   obtain⟨f,e⟩:=ED (V:=V) b;have l:=C f e.1;by_cases j:ZT t V g0 (un (cz t) i).aU
   ·exact absurd ⟨a,.inr ⟨f,e,l⟩,j⟩ (d _ hu)
   exact .step hu a e l j
 obtain⟨f,b,he⟩:=iG.1 c.g.1;obtain⟨i,q,e⟩:=ga b;have bX:=(c.I.aF i q).1;rw[aq q,e]at bX;have a:=xh c.I.pos bX;have j:=uV c.I;rw[he]at a;exact c.Dl (key (c.hm.sd g0 a.1 U c.qE)) .aF
def iE.AL (c:iE t s V g0)(Q:mg t y p k):aj t.vars y->(∀ f,oH t.vars y f->ZS t s V g0 f)->∃ op:Nat,(op:Int)∈p/\op<t.M.length/\j5 t s V g0 op:=by
 induction Q with
 | @aF y R =>
  intro r G;obtain⟨f,z,he⟩:=iG.1 c.g.1;have h1:=G _ (EK r (BU R z));rw[he]at h1
  exact absurd .aF (c.Dl h1)
 | @step y op p k K T _ ih =>
  intro r G;by_cases j:j5 t s V g0 op
  ·grind
  have L:=c.I.op op K;obtain⟨q,h1,h2,h3⟩:=ih (sb c.I r K) fun f z=>by
   obtain⟨v,hv,rfl⟩:=z;have N:v<y.length:=by rw[r.1];exact hv
   rcases NG (s:=y) (l:=(t.M.getD op bz).aQ) (fun e he=>by have:=uW (L.mem e he);rw[r.1];omega) N with e|⟨k,hk,e1,e2,e3⟩
   ·exact G _ ⟨v,hv,by rw[<-e];rfl⟩
   obtain⟨i,hi,C⟩:=Wf K hk;have hu:un (cz t) i∈cz t:=AE hi;have P:(un (cz t) i).aU=bP t.vars v+(cD t y op).getD v W.dflt:=by
    rw[C];show bP t.vars ((t.M.getD op bz).aQ.getD k bQ).var.toNat+((t.M.getD op bz).aQ.getD k bQ).val=_;rw[e1,e2,jU];rfl
   have F:(un (cz t) i).op=(op:Int):=by rw[C];rfl
   have D:∀ n∈(un (cz t) i).aG,ZS t s V g0 n:=fun n m=>by
    refine G n ?_;rw[C]at m;rcases zM.1 m with m|⟨f,z,rfl⟩
    ·rcases zM.1 m with m|⟨f,z,rfl⟩
     ·simp at m
     exact EK r (BU T z)
    exact EK r (BU e3 z)
   have a:rV V (un (cz t) i).aG:=fun n m=>(c.zl (D n m)).2;rw[<-P];by_cases b:(un (cz t) i).aG=[]
   ·by_cases d:ZT t V g0 (un (cz t) i).aU
    ·exact absurd ⟨_,hu,F,a,.inl b,d⟩ j
    exact .start hu b d
   obtain⟨f,h⟩:=ED (V:=V) b;by_cases d:ZT t V g0 (un (cz t) i).aU
   ·exact absurd ⟨_,hu,F,a,.inr ⟨f,h,D f h.1⟩,d⟩ j
   exact .step hu a h (D f h.1) d
  grind
end
end Go.Proofs.YtmapkjoefdgjfaaGreatDoor
