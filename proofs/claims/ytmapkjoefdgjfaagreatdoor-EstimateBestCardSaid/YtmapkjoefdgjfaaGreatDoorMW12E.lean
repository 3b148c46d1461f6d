/- Several texts. -/
import Derived.Test.YtmapkjoefdgjfaaGreatDoorMW11E
set_option linter.unusedSimpArgs false
set_option linter.unusedVariables false
set_option linter.defProp false
set_option maxRecDepth 8000
set_option maxHeartbeats 16000000
open List Nat
namespace Go.Proofs.YtmapkjoefdgjfaaGreatDoor
open Go.Sl
variable {f x M':Int}{y c:J}{u:Un}
section
variable {t:aa}
def uA (t:aa):(ar t).length=t.M.length:=by simp[ar]
def Cc (I:aG t):∀ x∈ar t,0<=x/\x<=1048576:=fun x hx=>by
 obtain⟨i,b,rfl⟩:=fJ hx;have a:i<t.M.length:=by rw[uA]at b;exact b
 rw[<-am (d:=W.dflt) b,vZ a];exact⟨(I.op i a).lE,(I.op i a).pd⟩
open Classical in
noncomputable def lP (t:aa)(T:J)(y:J):Int:=if ab t.vars y then T.getD (fE t.vars y).toNat W.dflt else 0
def US {T:J}(h:ab t.vars y):lP t T y=T.getD (fE t.vars y).toNat W.dflt:=aM h
variable {H:J->Int}{lim:Nat}
end
def SX {α:Type}[DecidableEq α]:∀ {l m:List α},l.Nodup->(∀ x∈l,x∈m)->l.length<=m.length
 | [],_,_,_=>bu _
 | x::l,m,d,a=>by
  obtain⟨h1,g⟩:=vr.1 d;have hx:=a x gz;have h:∀ y∈l,y∈m.erase x:=fun y b=>(GC (fun e=>h1 (by rw[<-e];exact b))).2 (a y (iR _ b));have i:=SX g h;have j:=DK hx;have k:=GD hx;rw[length_cons];omega
def Ui {α:Type}{P Q:α->Bool}:∀ {l:List α},(∀ x∈l,P x=true->Q x=true)->(∃ x∈l,Q x=true/\P x=false)->l.countP P<l.countP Q
 | [],_,h=>by obtain⟨x,hx,_⟩:=h;exact absurd hx fI
 | y::l,h1,d=>by
  have hm:l.countP P<=l.countP Q:=countP_mono_left fun x hx=>h1 x (iR _ hx);rw[DW,DW];obtain⟨x,hx,a,b⟩:=d;rcases ee.1 hx with rfl|hx
  ·rw[a,b,aM rfl,aC dc];omega
  have i:=Ui (fun x hx=>h1 x (iR _ hx)) ⟨x,hx,a,b⟩;have e:=h1 y gz;cases g:P y
  ·rw[aC dc];omega
  rw[e g,aM rfl];omega
section
variable {A:E8}
end
section
variable {A:E8}
def Fh (t:aa)(H:J->Int):Prop:=∀ s op,ab t.vars s->op<t.M.length->jU t s op->H s<=qz t op+H (cB t s op)
end
structure mr (t:aa) (S:bZ) (φ:J->Int):Prop where
 dK:∀ s,ab t.vars s->0<=φ s/\φ s<S.st
 aN:S.aS=ar t
 ut:∀ s op,ab t.vars s->op<t.M.length->jU t s op->(⟨φ s,(op:Int),φ (cB t s op)⟩:de)∈S.aD
 aH:∀ s,ab t.vars s->cp s t.aH->S.aQ.getD (φ s).toNat ah.dflt=true
section
variable {t:aa}{S A B:bZ}{φ o:J->Int}
def mr.congr (h:mr t S φ)(I:aG t)(he:∀ s,ab t.vars s->o s=φ s):mr t S o where
 dK s a:=by rw[he s a];exact h.dK s a
 aN:=h.aN
 ut s op a b d:=by rw[he s a,he _ (uR I a b)];exact h.ut s op a b d
 aH s a e:=by rw[he s a];exact h.aH s a e
def MJ {p:J}(I:aG t)(d:∀ v∈p,0<=v/\v<t.vars.length):mr t (dY t p) (bX t.vars p) where
 dK s b:=oF b d
 aN:=rfl
 ut s op b e g:=FZ.2 ⟨_,op,_,oF b d,e,oF (uR I b e) d,⟨s,b,rfl,g,rfl⟩,rfl⟩
 aH s b h:=by
  have j:=oF b d;have h1:=RN (t:=t) (p:=p) (k:=(br t.vars p).toNat) (a:=(bX t.vars p s).toNat) U;have i:mD t p (((bX t.vars p s).toNat:Nat):Int)=true:=Lj.2 ⟨s,b,U,wN.2 fun x hx=>wN.1 h x (rV.1 hx).1⟩;exact h1.trans i
def B_ (h:iT S=true):dR S:=nr fun a=>by rw[we a]at h;cases h
def C_ (a:fx S c=0):dR S/\0<=lT c S.st/\jz c S.st (lT c S.st):=by
 unfold fx at a;by_cases h:iT S=true/\ln c S.st=true
 ·exact⟨B_ h.1,Uj h.2⟩
 rw[aC h]at a;exact absurd a dc
def Uk {n k:Int}(h:jz c n k)(b:0<=x)(h1:x<n):0<=c.getD x.toNat W.dflt/\c.getD x.toNat W.dflt<k:=by
 obtain⟨c1,c2,a,_⟩:=h;have hm:c.getD x.toNat W.dflt∈c:=cH W.dflt U;exact⟨(c2 _ hm).1,a _ hm⟩
def D_ (h:mr t S φ)(I:aG t)(b:fx S c=0):mr t (kC S c) (fun s=>c.getD (φ s).toNat W.dflt):=by
 obtain⟨hv,hk,d⟩:=C_ b;have g:kC S c=⟨lT c S.st,c.getD S.bR.toNat W.dflt,S.aS,lL (iu jg (S.aD.map (rA c))),sH S.aQ c (lT c S.st).toNat⟩:=by unfold kC;rw[aM b]
 rw[g];refine⟨fun s a=>?_,h.aN,fun s op a i j=>?_,fun s a k=>?_⟩
 ·have:=h.dK s a
  exact Uk d this.1 this.2
 ·exact Mq.2 ((Mn wV).2 (iS.2 ⟨_,h.ut s op a i j,rfl⟩))
 have e:=h.dK s a;have hx:=Uk d e.1 e.2;have l:(S.aQ.length:Int)=S.st:=hv.2.2.2.2.1;show (ie S.aQ c (lT c S.st).toNat S.aQ.length).getD (c.getD (φ s).toNat W.dflt).toNat ah.dflt=true;rw[HG U,any_eq_true];refine⟨(φ s).toNat,by rw[mem_range];omega,?_⟩;rw[Bool.and_eq_true,gQ];exact⟨U,h.aH s a k⟩
def Ul {i j:Nat}(a:j<B.st.toNat):∀ {m:Nat},i<m->(ml A B m).getD (i*B.st.toNat+j) ah.dflt=(A.aQ.getD i ah.dflt && B.aQ.getD j ah.dflt)
 | 0,h=>absurd h (dr _)
 | m+1,h=>by
  have b:=K0 A B m;rw[KZ,iD];by_cases e:i<m
  ·have h1:(i+1)*B.st.toNat<=m*B.st.toNat:=uL _ e
   rw[qD,wy]at h1;rw[iX U,<-iD];exact Ul a e
  have d:i=m:=U;subst d;rw[kn U,b,Kl];simp[nP,a]
def F_ (a:dB A B=0):dR A/\dR B/\A.aS=B.aS/\A.st*B.st<=4096/\zo A B<=65536:=by
 unfold dB at a;split at a
 ·rename_i h
  split at a
  ·exact absurd a dc
  rename_i b;split at a
  ·exact absurd a dc
  rename_i d;exact⟨h.1,h.2.1,h.2.2,U,U⟩
 exact absurd a dc
def G_ {y a b:Int}(d:0<=x)(hx:x<a)(e:0<=y)(h:y<b):0<=x*b+y/\x*b+y<a*b:=by
 have h1:0<=x*b:=sj d U;have g:(x+1)*b<=a*b:=xV U U;rw[zM,Dq]at g;omega
def H_ (d:mr t A φ)(h:mr t B o)(m:dB A B=0):mr t (jh A B) (fun s=>φ s*B.st+o s):=by
 obtain⟨q,r,i,v,z⟩:=F_ m;have C:jh A B=⟨A.st*B.st,A.bR*B.st+B.bR,A.aS,iu jg (sG A B),na A B⟩:=by unfold jh;rw[aM m]
 rw[C];refine⟨fun s a=>?_,d.aN,fun s op a j b=>?_,fun s a n=>?_⟩
 ·have h1:=d.dK s a
  have k:=h.dK s a;exact G_ h1.1 h1.2 k.1 k.2
 ·have l:op<A.aS.length:=by rw[d.aN,uA];exact j
  refine(Mn wV).2 (tE.2 ⟨op,mem_range.2 l,tE.2 ⟨⟨φ s,(op:Int),φ (cB t s op)⟩,?_,iS.2 ⟨⟨o s,(op:Int),o (cB t s op)⟩,?_,rfl⟩⟩⟩)
  ·exact(Al (g:=fun e:de=>e.cK) l).2 ⟨d.ut s op a j b,rfl⟩
  exact(Al (g:=fun e:de=>e.cK) (by rw[<-i];exact l)).2 ⟨h.ut s op a j b,rfl⟩
 have h1:=d.dK s a;have k:=h.dK s a;have l:(φ s*B.st+o s).toNat=(φ s).toNat*B.st.toNat+(o s).toNat:=by
  have hm:0<=φ s*B.st:=sj h1.1 U;have D:(((φ s).toNat*B.st.toNat:Nat):Int)=φ s*B.st:=by
   rw[Ki,gA h1.1,gA U]
  omega
 show (ml A B A.st.toNat).getD (φ s*B.st+o s).toNat ah.dflt=true;rw[l,Ul U U,d.aH s a n,h.aH s a n];rfl
def I_ {n:Nat}(a:0<=x)(h1:x<n):(c9 n).getD x.toNat W.dflt=x:=by
 have h:x.toNat<n:=U;simp[c9,List.getD,h];omega
def MK (h:mr t S φ)(I:aG t)(a:cJ S M'=0):mr t (dX S M') (fun s=>(fU S M').getD (φ s).toNat W.dflt):=by
 by_cases hm:S.st<=M'
 ·have b:fU S M'=c9 S.st.toNat:=by unfold fU;rw[aM hm]
  have d:dX S M'=S:=by unfold dX;rw[aM hm]
  rw[b,d];refine h.congr I fun s e=>?_;have:=h.dK s e;exact I_ this.1 U
 by_cases hv:dR S
 ·have b:fU S M'=gC S M':=by unfold fU;rw[aC hm,aM hv]
  have d:dX S M'=kC S (gC S M'):=by unfold dX;rw[aC hm,aM hv]
  have e:fx S (gC S M')=0:=by unfold cJ at a;rwa[aC hm,aM hv]at a
  rw[b,d];exact D_ h I e
 unfold cJ at a;rw[aC hm,aC hv]at a;exact absurd a dc
def Um {vars s:J}{v:Int}:bX vars [v] s=sg s v:=by
 simp[bX,fQ,fE,lA]
def Uo {M':Int}(I:aG t):∀ k,k<t.vars.length->(lz t M' (k+1)).vC=0->(lz t M' (k+1)).eJ≠[]/\mr t (lz t M' (k+1)).eG (fun s=>oo s (lz t M' (k+1)).eJ)
 | 0,hk,he=>by
  have d:∀ v∈[(0:Int)],0<=v/\v<t.vars.length:=fun v hv=>by rw[dp.1 hv];omega
  have e:lz t M' 1=pF t M' 0:=rfl;rw[e]at he ⊢;unfold pF at he ⊢;by_cases h1:cT t [0]≠0
  ·rw[aM h1]at he;exact absurd he h1
  rw[aC h1]at he ⊢;by_cases a:cJ (dY t [0]) M'≠0
  ·rw[aM a]at he;exact absurd he a
  rw[aC a];have b:=MK (M':=M') (MJ I d) I (tK.1 a);refine⟨sm,b.congr I fun s m=>?_⟩;show (fU (dY t [0]) M').getD (s.getD (0:Int).toNat W.dflt).toNat W.dflt=_
  rw[Um]
 | k+1,hk,he=>by
  have d:∀ v∈[((k+1:Nat):Int)],0<=v/\v<t.vars.length:=fun v hv=>by rw[dp.1 hv];omega
  have e:lz t M' (k+1+1)=pG t M' (lz t M' (k+1)) ((k+1:Nat):Int):=rfl;rw[e]at he ⊢;have l:=Uo I k (M':=M') U;generalize lz t M' (k+1)=X' at l he ⊢;generalize hv:((k+1:Nat):Int)=v at d he ⊢;clear hv e;unfold pG at he ⊢;by_cases g:X'.vC≠0
  ·rw[aM g]at he;exact absurd he g
  rw[aC g]at he ⊢;by_cases h1:cT t [v]≠0
  ·rw[aM h1]at he;exact absurd he h1
  rw[aC h1]at he ⊢;obtain⟨i,j⟩:=l (tK.1 g);simp only at he ⊢;generalize up M' X'.eG.st (dY t [v]).st=lr at he ⊢;by_cases a:cJ X'.eG lr.1≠0
  ·rw[aM a]at he;exact absurd he a
  rw[aC a]at he ⊢;by_cases b:cJ (dY t [v]) lr.2≠0
  ·rw[aM b]at he;exact absurd he b
  rw[aC b]at he ⊢;by_cases h:dB (dX X'.eG lr.1) (dX (dY t [v]) lr.2)≠0
  ·rw[aM h]at he;exact absurd he h
  rw[aC h];have g1:=MK j I (tK.1 a);have g2:=MK (M':=lr.2) (MJ I d) I (tK.1 b);have g3:=H_ g1 g2 (tK.1 h);refine⟨sm,g3.congr I fun s m=>?_⟩;show oo s (X'.eJ++[_])=_;rw[ML i,Um]
def J_ (I:aG t)(a:eM t M'=0):dR (lz t (lh M') t.vars.length).eG/\mr t (lz t (lh M') t.vars.length).eG (fun s=>oo s (rk t M')):=by
 unfold eM at a;by_cases h1:(lz t (lh M') t.vars.length).vC≠0
 ·rw[aM h1]at a;exact absurd a h1
 rw[aC h1]at a;by_cases b:dR (lz t (lh M') t.vars.length).eG;rotate_left
 ·rw[aC b]at a;exact absurd a dc
 refine⟨b,?_⟩;unfold rk
 cases d:t.vars.length with
 | zero =>
  rw[d]at h1 b;have e:cT t []=0:=tK.1 h1;have g:(lz t (lh M') 0).eG=dY t []:=by show kt t [] (cT t [])=_;unfold kt;rw[aM e]
  rw[g]
  refine(MJ I (p:=[]) fun v hv=>absurd hv fI).congr I fun s h=>rfl
 | succ k =>
  rw[d]at h1;exact(Uo I k U (tK.1 h1)).2
def K_ (I:aG t)(h:mr t S φ)(hv:dR S):(∀ i:Nat,0<=(mW S).getD i W.dflt/\(mW S).getD i W.dflt<=bH) /\
  (∀ s op,ab t.vars s->op<t.M.length->jU t s op->(mW S).getD (φ s).toNat W.dflt<=qz t op+(mW S).getD (φ (cB t s op)).toNat W.dflt) /\
  ∀ s,ab t.vars s->cp s t.aH->(mW S).getD (φ s).toNat W.dflt=0:=by
 have r:(S.aQ.length:Int)=S.st:=hv.2.2.2.2.1;have h1:=hv.1;obtain⟨d,m,n⟩:=OT (JR hv) (fr:=gM S.aQ S.aQ.length) (Gi _) (fun i e=>by have:=Dy.1 e;omega);have v:mW S=(oY (cz (jC S true)) ed (fk S.st.toNat (gM S.aQ S.aQ.length))).out:=rfl;rw[v];generalize oY (cz (jC S true)) ed (fk S.st.toNat (gM S.aQ S.aQ.length))=F at d m n ⊢;refine⟨fun i=>?_,fun s op b j z=>?_,fun s b C=>?_⟩
 ·by_cases e:i<S.st.toNat
  ·exact d.ob i e
  rw[iD,uK (by rw[d.ol];omega)];exact⟨dt _,dc⟩
 ·have hm:=h.ut s op b j z
  have q:=h.dK s b;have D:=h.dK _ (uR I b j);have k:nq (jC S true) (sP S true ⟨φ s,(op:Int),φ (cB t s op)⟩):=by
   refine⟨?_,D.1,?_⟩
   ·exact(Al (g:=fun a:fW=>a.bh) (l:=S.aD.map (sP S true)) (x:=(φ (cB t s op)).toNat) U).2 ⟨iS.2 ⟨_,hm,rfl⟩,by show φ (cB t s op)=_;omega⟩
   show φ (cB t s op)<((jC S true).length:Int);rw[show (jC S true).length=S.st.toNat from yM];omega
  have G:=m _ k;have K:S.aS.getD op W.dflt=qz t op:=by rw[h.aN,vZ j];rfl
  have L:F.out.getD (φ s).toNat W.dflt<=F.out.getD (φ (cB t s op)).toNat W.dflt+S.aS.getD ((op:Int)).toNat W.dflt:=G;rw[jo,K]at L;omega
 have q:=h.dK s b;exact n _ (Dy.2 ⟨q.1,U,h.aH s b C⟩)
end
def L_ {t:aa}(I:aG t)(a:eM t M'=0):BB t (sJ t M')/\Fh t (sJ t M')/\∀ s,ab t.vars s->cp s t.aH->sJ t M' s=0:=by
 obtain⟨hv,b⟩:=J_ I a;obtain⟨h1,d,e⟩:=K_ I b hv;exact⟨⟨I,fun y=>(h1 _).1,fun y=>(h1 _).2⟩,d,e⟩
def M_ {t:aa}{H:J->Int}(I:aG t)(g:Fh t H)(h:∀ s,ab t.vars s->cp s t.aH->H s=0){q:J}{d:Int}(b:mL t y q d)(a:ab t.vars y):H y<=d:=by
 induction b with
 | aH i=>rw[h _ a i];exact dt _
 | @step y op q d e j b k =>
  have h1:=k (uR I a e);have l:=g y op a e j;omega
section
variable {t:aa}{s out:J}
def Up (I:aG t)(C:ab t.vars s)(h:gT t s out){v:Int}(L:jI (bW t) (mb t.vars s) f v):0<=f->f<aR t->v=dg out f->0<v->v<bH->∃ g:Int,0<=g/\g<aR t/\dg out g<v/\v<=dg out g+1048576:=by
 have D:=uS I
 induction L with
 | start _=>intro _ _ _ F;omega
 | @iJ i G m l hm K eI N =>
  intro F h1 he hv P;have hc:=D.aN i l;have d:=D.aw i l;by_cases hex:∃ n∈(un (bW t) i).aw,dg out n=m
  ·obtain⟨n,a,j⟩:=hex
   have b:=d n a;by_cases q:(un (bW t) i).aN=0
   ·have k:=h.low n (G n) (K n a) b.1 b.2
    have r:=eI n a;obtain⟨g,g1,g2,g3,g4⟩:=N n a b.1 b.2 U U U;exact⟨g,g1,g2,U,U⟩
   exact⟨n,b.1,b.2,U,U⟩
  have b:∀ n∈(un (bW t) i).aw,dg out n<m:=fun n a=>by
   have k:=h.low n (G n) (K n a) (d n a).1 (d n a).2;have r:=eI n a;have q:dg out n≠m:=fun e=>hex ⟨n,a,e⟩;omega
  by_cases Q:0<m
  ·have j:jI (bW t) (mb t.vars s) (un (bW t) i).aK ((un (bW t) i).aN+(m-1)):=.iJ (v:=fun n=>dg out n) l U (fun n a=>h.qF n (d n a).1 (d n a).2 (by have:=b n a;omega)) (fun n a=>by have:=b n a;show dg out n<=m-1;omega)
   have k:=h.low _ _ j F h1;omega
  have j:0<t.vars.length:=by
   refine O9 fun e=>?_;have q:=tA I;rw[e]at q;have R:bD t.vars 0=0:=TJ _;omega
  have r:mb t.vars s (bD t.vars 0+s.getD 0 W.dflt):=⟨0,j,rfl⟩
  have T:=C.1;have k:=C.2 0 U;have z:=EJ I.pos j k.1 k.2;have q:=tA I;have R:=h.low _ 0 (.start r) z.1 U;have h7:=h.dK (bD t.vars 0+s.getD 0 W.dflt) z.1 U;exact⟨_,z.1,U,U,U⟩
def w6 (out:J)(N:Nat)(x:Int):Nat:=(List.range N).countP fun (g:Nat)=>decide (dg out (g:Int)<x)
def Uq (I:aG t)(d:ab t.vars s)(h:gT t s out):∀ (m:Nat) (f:Int),0<=f->f<aR t->dg out f<bH->w6 out (aR t) (dg out f)<=m->dg out f<=1048576*(m:Int):=by
 intro m
 induction m with
 | zero =>
  intro f b h1 a i;refine tu.1 fun e=>?_;obtain⟨g,g1,g2,g3,g4⟩:=Up I d h (h.qF f b h1 a) b h1 rfl U a;have:0<w6 out (aR t) (dg out f):=I0.2 ⟨g.toNat,mem_range.2 U,by rw[gA g1];exact dy g3⟩
  omega
 | succ m j =>
  intro f b h1 a i;by_cases e:0<dg out f
  ·obtain⟨g,g1,g2,g3,g4⟩:=Up I d h (h.qF f b h1 a) b h1 rfl e a
   have k:w6 out (aR t) (dg out g)<w6 out (aR t) (dg out f):=by
    refine Ui (fun x _ hx=>?_) ⟨g.toNat,mem_range.2 U,by rw[gA g1];exact dy g3,by rw[gA g1];exact dU (G3 _)⟩;have:=uB hx;exact dy U
   have:=j g g1 g2 U U;omega
  omega
def Ur (out:J)(N:Nat)(x:Int):w6 out N x<=N:=by
 have h:=countP_le_length (p:=fun g:Nat=>decide (dg out (g:Int)<x)) (l:=List.range N);rw[length_range]at h;exact h
end
def NP {t:aa}(I:aG t):∀ y,cA t y<bH->cA t y<=4294967296:=fun y a=>by
 by_cases b:ab t.vars y
 ·obtain⟨out,h⟩:=Ax I y
  rw[yX b h]at a ⊢;refine(yW dc).2 fun f d=>?_;have h1:dg out (dE t.vars f)<=cY t.vars t.aH out:=(yW (Aw _ _ _)).1 (dt _) f d;obtain⟨i,g,e⟩:=fJ d;have bL:=(I.aH i g).1;rw[am g,e]at bL;have j:=vG I.pos bL;have m:=tA I;have k:=An I;have l:=Ur out (aR t) (dg out (dE t.vars f));have n:=Uq I b h (aR t) _ j.1 U U l;omega
 rw[A5 b];decide
def jv (V l:J)(f:Int):Prop:=f∈l/\∀ g∈l,dg V g<dg V f\/(dg V g=dg V f/\f<=g)
def CZ {V l:J}{d:Int}(h:jv V l f)(e:jv V l d):f=d:=by
 rcases h.2 d e.1 with a|a<;>rcases e.2 f h.1 with b|b<;>omega
def C3 {V:J}:∀ {l:J},l≠[]->∃ f,jv V l f
 | [],h=>absurd rfl h
 | [x],_=>⟨x,gz,fun g I=>by rw[dp.1 I];exact .inr ⟨rfl,dt _⟩⟩
 | x::y::l,_=>by
  obtain⟨f,h1,a⟩:=C3 (V:=V) (l:=y::l) sm;by_cases hx:dg V f<dg V x\/(dg V f=dg V x/\x<=f)
  ·refine⟨x,gz,fun g I=>?_⟩
   rcases ee.1 I with e|I
   ·rw[e];exact .inr ⟨rfl,dt _⟩
   rcases a g I with b|b<;>omega
  refine⟨f,iR _ h1,fun g I=>?_⟩;rcases ee.1 I with e|I
  ·rw[e];omega
  exact a g I
def jv.ge {V l:J}{g:Int}(h:jv V l f)(I:g∈l):dg V g<=dg V f:=by
 rcases h.2 g I with a|a<;>omega
def qo (V l:J):Prop:=∀ g∈l,dg V g<bH
inductive ZT (t:aa) (V:J) (g0:Int):Int->Prop
 | aH:ZT t V g0 g0
 | step {u:Un}{f:Int}:u∈bW t->qo V u.aw->jv V u.aw f->u.aN=0->ZT t V g0 u.aK->ZT t V g0 f
inductive ZS (t:aa) (s V:J) (g0:Int):Int->Prop
 | st {f:Int}:mb t.vars s f->ZS t s V g0 f
 | start {u:Un}:u∈bW t->u.aw=[]->¬ZT t V g0 u.aK->ZS t s V g0 u.aK
 | step {u:Un}{f:Int}:u∈bW t->qo V u.aw->jv V u.aw f->ZS t s V g0 f->¬ZT t V g0 u.aK->ZS t s V g0 u.aK
def zx (t:aa)(s V:J)(g0:Int)(u:Un):Prop:=qo V u.aw/\(u.aw=[]\/∃ f,jv V u.aw f/\ZS t s V g0 f)/\ZT t V g0 u.aK
def ja (t:aa)(s V:J)(g0:Int)(i:Nat):Prop:=∃ u∈bW t,u.op=(i:Int)/\zx t s V g0 u
def dA (t:aa):J:=t.aH.map (dE t.vars)
structure gE (t:aa) (s V:J) (g0:Int):Prop where
 I:aG t
 hs:ab t.vars s
 hm:gT t s V
 g:jv V (dA t) g0
 pos:0<dg V g0
 pQ:dg V g0<bH
def ve {t:aa}(h:u∈bW t):∃ i:Nat,i<(bW t).length/\un (bW t) i=u:=by
 obtain⟨i,a,he⟩:=fJ h;exact⟨i,a,by unfold un;rw[jo,am a];exact he⟩
def y7 {t:aa}{s:J}(I:aG t)(b:ab t.vars s)(h:mb t.vars s f):0<=f/\f<aR t:=by
 obtain⟨v,hv,rfl⟩:=h;have d:=b.1;have a:=b.2 v U;have e:=EJ I.pos hv a.1 a.2;have:=tA I;omega
section
variable {t:aa}{s V:J}{g0:Int}
def gE.iZ (c:gE t s V g0)(b:0<=f)(h1:f<aR t)(a:dg V f<bH):dg V f<=4294967296:=by
 have d:=Ur V (aR t) (dg V f);have e:=An c.I;have:=Uq c.I c.hs c.hm (aR t) f b h1 a d;omega
def gE.iJ (c:gE t s V g0){u:Un}(hu:u∈bW t)(g:qo V u.aw){m:Int}(hm:0<=m)(eI:∀ n∈u.aw,dg V n<=m):0<=u.aK/\u.aK<aR t/\dg V u.aK<=u.aN+m:=by
 obtain⟨i,a,rfl⟩:=ve hu;have b:=uS c.I;have hk:=b.aK i a;refine⟨hk.1,hk.2,c.hm.low _ _ (.iJ (v:=fun n=>dg V n) a hm (fun n d=>?_) eI) hk.1 hk.2⟩;have e:=b.aw i a n d;exact c.hm.qF n e.1 e.2 (g n d)
def gE.vR (c:gE t s V g0)(hu:u∈bW t){n:Int}(b:n∈u.aw):(0<=n/\n<aR t)/\0<=dg V n:=by
 obtain⟨i,d,rfl⟩:=ve hu;have a:=(uS c.I).aw i d n b;exact⟨a,(c.hm.dK n a.1 a.2).1⟩
def gE.aN (c:gE t s V g0){u:Un}(hu:u∈bW t):0<=u.aN/\u.aN<=1048576:=by
 obtain⟨i,a,rfl⟩:=ve hu;exact(uS c.I).aN i a
def gE.AX (c:gE t s V g0)(h:ZT t V g0 f):dg V g0<=dg V f:=by
 induction h with
 | aH=>exact dt _
 | @step u f hu d a e _ g =>
  have b:=c.vR hu a.1;have:=(c.iJ hu d (m:=dg V f) b.2 fun n b=>a.ge b).2.2;omega
def gE.vn (c:gE t s V g0)(h:mb t.vars s f):dg V f<=0:=by
 have a:=y7 c.I c.hs h;exact c.hm.low f 0 (.start h) a.1 a.2
def gE.B2 (c:gE t s V g0)(h:ZS t s V g0 f):¬ZT t V g0 f:=by
 cases h with
 | st h=>intro a;have h1:=c.AX a;have b:=c.vn h;have:=c.pos;omega
 | start _ _ h=>exact h
 | step _ _ _ _ h=>exact h
def gE.xJ (c:gE t s V g0)(h:ZS t s V g0 f):(0<=f/\f<aR t)/\dg V f<bH:=by
 have e:bH=1125899906842624:=rfl
 cases h with
 | st h=>exact⟨y7 c.I c.hs h,by have:=c.vn h;omega⟩
 | @start u hu a _ =>
  have h1:=c.iJ hu (fun n h=>by rw[a]at h;exact absurd h fI) (dt 0) (fun n h=>by rw[a]at h;exact absurd h fI);have i:=c.aN hu
  exact⟨⟨h1.1,h1.2.1⟩,U⟩
 | @step u g hu d b _ _ =>
  have a:=c.vR hu b.1;have h1:=c.iJ hu d (m:=dg V g) a.2 fun n a=>b.ge a;have i:=c.aN hu;have k:=c.iZ a.1.1 a.1.2 (d g b.1);exact⟨⟨h1.1,h1.2.1⟩,U⟩
def gE.zz (c:gE t s V g0)(hu:u∈bW t)(h:zx t s V g0 u):0<u.aN:=by
 obtain⟨g,a,i⟩:=h;have k:=c.aN hu;refine zZ.1 fun l=>?_;have b:u.aN=0:=U;rcases a with j|⟨f,d,e⟩
 ·have h1:=c.iJ hu g (dt 0) (fun n h=>by rw[j]at h;exact absurd h fI)
  have m:=c.AX i;have:=c.pos;omega
 exact c.B2 e (.step hu g d b i)
def gE.some (c:gE t s V g0):∃ u∈bW t,zx t s V g0 u:=by
 refine nr fun q=>?_;have d:∀ u∈bW t,¬zx t s V g0 u:=fun u hu h=>q ⟨u,hu,h⟩;have key:∀ {f v:Int},jI (bW t) (mb t.vars s) f v->ZS t s V g0 f:=by
  intro f v C
  induction C with
  | start h=>exact .st h
  | @iJ i D m l hm F eI z =>
   have hu:un (bW t) i∈bW t:=yZ l;have a:qo V (un (bW t) i).aw:=fun n r=>(c.xJ (z n r)).2;by_cases b:(un (bW t) i).aw=[]
   ·by_cases j:ZT t V g0 (un (bW t) i).aK
    ·exact absurd ⟨a,.inl b,j⟩ (d _ hu)
    exact .start hu b j
   obtain⟨f,e⟩:=C3 (V:=V) b;have k:=z f e.1;by_cases j:ZT t V g0 (un (bW t) i).aK
   ·exact absurd ⟨a,.inr ⟨f,e,k⟩,j⟩ (d _ hu)
   exact .step hu a e k j
 obtain⟨f,b,he⟩:=iS.1 c.g.1;obtain⟨i,l,e⟩:=fJ b;have bL:=(c.I.aH i l).1;rw[am l,e]at bL;have a:=vG c.I.pos bL;have j:=tA c.I;rw[he]at a;exact c.B2 (key (c.hm.qF g0 a.1 U c.pQ)) .aH
def gE.zb (c:gE t s V g0){p:J}{k:Int}(Q:mL t y p k):ab t.vars y->(∀ f,mb t.vars y f->ZS t s V g0 f)->∃ op:Nat,(op:Int)∈p/\op<t.M.length/\ja t s V g0 op:=by
 induction Q with
 | @aH y R =>
  intro r G;obtain⟨f,z,he⟩:=iS.1 c.g.1;have h1:=G _ (Dd r (AA R z));rw[he]at h1
  exact absurd .aH (c.B2 h1)
 | @step y op p k K T _ ih =>
  intro r G;by_cases a:ja t s V g0 op
  ·exact⟨op,gz,K,a⟩
  have L:=c.I.op op K;obtain⟨q,h1,h2,h3⟩:=ih (uR c.I r K) fun f z=>by
   obtain⟨v,hv,rfl⟩:=z;have N:v<y.length:=by rw[r.1];exact hv
   rcases LO (s:=y) (l:=(t.M.getD op bj).aJ) (fun e he=>by have:=tO (L.mem e he);rw[r.1];exact⟨this.1,this.2.1⟩) N with e|⟨k,hk,e1,e2,e3⟩
   ·exact G _ ⟨v,hv,by rw[<-e];rfl⟩
   obtain⟨i,hi,C⟩:=TK K hk;have hu:un (bW t) i∈bW t:=yZ hi;have P:(un (bW t) i).aK=bD t.vars v+(cB t y op).getD v W.dflt:=by
    rw[C];show bD t.vars ((t.M.getD op bj).aJ.getD k bE).var.toNat+((t.M.getD op bj).aJ.getD k bE).val=_;rw[e1,e2,jo];rfl
   have F:(un (bW t) i).op=(op:Int):=by rw[C];rfl
   have D:∀ n∈(un (bW t) i).aw,ZS t s V g0 n:=fun n m=>by
    refine G n ?_;rw[C]at m;rcases yf.1 m with m|⟨f,z,rfl⟩
    ·rcases yf.1 m with m|⟨f,z,rfl⟩
     ·simp at m
     exact Dd r (AA T z)
    exact Dd r (AA e3 z)
   have b:qo V (un (bW t) i).aw:=fun n m=>(c.xJ (D n m)).2;rw[<-P];by_cases d:(un (bW t) i).aw=[]
   ·by_cases h:ZT t V g0 (un (bW t) i).aK
    ·exact absurd ⟨_,hu,F,b,.inl d,h⟩ a
    exact .start hu d h
   obtain⟨f,j⟩:=C3 (V:=V) d;by_cases h:ZT t V g0 (un (bW t) i).aK
   ·exact absurd ⟨_,hu,F,b,.inr ⟨f,j,D f j.1⟩,h⟩ a
   exact .step hu b j (D f j.1) h
  exact⟨q,iR _ h1,h2,h3⟩
end
end Go.Proofs.YtmapkjoefdgjfaaGreatDoor
