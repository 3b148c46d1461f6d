/- Several texts. -/
import Derived.Test.YtmapkjoefdgjfaaGreatDoorMW11
set_option linter.unusedSimpArgs false
set_option linter.unusedVariables false
set_option maxRecDepth 8000
set_option maxHeartbeats 16000000
open List Nat
namespace Go.Proofs.YtmapkjoefdgjfaaGreatDoor
open Go.Sl
section
variable {t:Aa}
theorem uz (t:Aa):(ar t).length=t.ops.length:=by simp[ar]
theorem qeK (hg:Af t):∀ x∈ar t,0<=x/\x<=1048576:=fun x hx=>by
 obtain⟨i,hi,rfl⟩:=getElem_of_mem hx;have eO:i<t.ops.length:=by rw[uz]at hi;exact hi
 rw[<-getD_at (d:=aa.dflt) hi,wV eO];exact⟨(hg.op i eO).jc,(hg.op i eO).ly⟩
variable {H:List Int->Int}{lim:Nat}
end
theorem qkn {α:Type} [DecidableEq α]:∀ {l m:List α},l.Nodup->(∀ x∈l,x∈m)->l.length<=m.length
 | [],_,_,_=>zero_le _
 | x::l,m,hn,hs=>by
  obtain⟨h1,h2⟩:=nodup_cons.1 hn;have hx:=hs x mem_cons_self;have h3:∀ y∈l,y∈m.erase x:=fun y hy=>(mem_erase_of_ne (fun e=>h1 (by rw[<-e];exact hy))).2 (hs y (mem_cons_of_mem _ hy));have h4:=qkn h2 h3;have h5:=length_erase_of_mem hx;have h6:=length_pos_of_mem hx;rw[length_cons];omega
theorem qko {α:Type}{P Q:α->Bool}:∀ {l:List α},(∀ x∈l,P x=true->Q x=true)->(∃ x∈l,Q x=true/\P x=false)->l.countP P<l.countP Q
 | [],_,h=>by obtain⟨x,hx,_⟩:=h;exact absurd hx not_mem_nil
 | y::l,h1,h2=>by
  have hm:l.countP P<=l.countP Q:=countP_mono_left fun x hx=>h1 x (mem_cons_of_mem _ hx);rw[countP_cons,countP_cons];obtain⟨x,hx,h3,h4⟩:=h2;rcases mem_cons.1 hx with rfl|hx
  ·rw[h3,h4,if_pos rfl,if_neg (by decide)];omega
  ·have ih:=qko (fun x hx=>h1 x (mem_cons_of_mem _ hx)) ⟨x,hx,h3,h4⟩
   have hy:=h1 y mem_cons_self;cases hp:P y
   ·rw[if_neg (by decide)];omega
   ·rw[hy hp,if_pos rfl];omega
section
variable {A:Dv}
end
section
variable {A:Dv}
def Cons (t:Aa) (H:List Int->Int):Prop:=∀ s op,Ac t.vars s->op<t.ops.length->A6 t s op->H s<=pJ t op+H (bm t s op)
end
structure By (t:Aa) (S:Ak) (φ:List Int->Int):Prop where
 cC:∀ s,Ac t.vars s->0<=φ s/\φ s<S.st
 cost:S.au=ar t
 pL:∀ s op,Ac t.vars s->op<t.ops.length->A6 t s op->(⟨φ s,(op:Int),φ (bm t s op)⟩:Au)∈S.ak
 goal:∀ s,Ac t.vars s->Aq s t.goal->S.goals.getD (φ s).toNat ah.dflt=true
section
variable {t:Aa}{S A B:Ak}{φ ψ:List Int->Int}
theorem By.congr (h:By t S φ) (hg:Af t) (he:∀ s,Ac t.vars s->ψ s=φ s):By t S ψ where
 cC s hs:=by rw[he s hs];exact h.cC s hs
 cost:=h.cost
 pL s op hs ho ha:=by rw[he s hs,he _ (qA hg hs ho)];exact h.pL s op hs ho ha
 goal s hs hh:=by rw[he s hs];exact h.goal s hs hh
theorem qim {p:List Int}(hg:Af t) (hp:∀ v∈p,0<=v/\v<t.vars.length):By t (cj t p) (bj t.vars p) where
 cC s hs:=k9 hs hp
 cost:=rfl
 pL s op hs ho ha:=qcy.2 ⟨_,op,_,k9 hs hp,ho,k9 (qA hg hs ho) hp,⟨s,hs,rfl,ha,rfl⟩,rfl⟩
 goal s hs hh:=by
  have hb:=k9 hs hp;have h1:=qkH (t:=t) (p:=p) (k:=(aL t.vars p).toNat) (a:=(bj t.vars p s).toNat) om;have h2:jJ t p (((bj t.vars p s).toNat:Nat):Int)=true:=qgQ.2 ⟨s,hs,by omega,sN.2 fun x hx=>sN.1 hh x (mem_filter.1 hx).1⟩;exact h1.trans h2
theorem qsf (h:fM S=true):Ar S:=Classical.byContradiction fun hn=>by rw[r6 hn]at h;cases h
theorem qvU {c:List Int}(hE:cQ S c=0):Ar S/\0<=jk c S.st/\AJ c S.st (jk c S.st):=by
 unfold cQ at hE;by_cases h:fM S=true/\iQ c S.st=true
 ·exact⟨qsf h.1,qpi h.2⟩
 ·rw[if_neg h]at hE;exact absurd hE (by decide)
theorem qjJ {c:List Int}{n k x:Int}(h:AJ c n k) (h0:0<=x) (h1:x<n):0<=c.getD x.toNat aa.dflt/\c.getD x.toNat aa.dflt<k:=by
 obtain⟨c1,c2,c3,_⟩:=h;have hm:c.getD x.toNat aa.dflt∈c:=bY aa.dflt om;exact⟨(c2 _ hm).1,c3 _ hm⟩
theorem quP {c:List Int}(h:By t S φ) (hg:Af t) (hE:cQ S c=0):By t (fF S c) (fun s=>c.getD (φ s).toNat aa.dflt):=by
 obtain⟨hv,hk,hc⟩:=qvU hE;have hQ:fF S c=⟨jk c S.st,c.getD S.aY.toNat aa.dflt,S.au,ix (dN df (S.ak.map (kN c))),kO S.goals c (jk c S.st).toNat⟩:=by unfold fF;rw[if_pos hE]
 rw[hQ];refine⟨fun s hs=>?_,h.cost,fun s op hs ho ha=>?_,fun s hs hh=>?_⟩
 ·have:=h.cC s hs
  exact qjJ hc this.1 this.2
 ·exact qiI.2 ((qgk kK).2 (mem_map.2 ⟨_,h.pL s op hs ho ha,rfl⟩))
 ·have hr:=h.cC s hs
  have hx:=qjJ hc hr.1 hr.2;have hl:(S.goals.length:Int)=S.st:=hv.2.2.2.2.1;show (ff S.goals c (jk c S.st).toNat S.goals.length).getD (c.getD (φ s).toNat aa.dflt).toNat ah.dflt=true;rw[qfW om,any_eq_true];refine⟨(φ s).toNat,by rw[mem_range];omega,?_⟩;rw[Bool.and_eq_true,decide_eq_true_eq];exact⟨by omega,h.goal s hs hh⟩
theorem qpp {i j:Nat}(hj:j<B.st.toNat):∀ {m:Nat},i<m->(jo A B m).getD (i*B.st.toNat+j) ah.dflt=(A.goals.getD i ah.dflt && B.goals.getD j ah.dflt)
 | 0,h=>absurd h (not_lt_zero _)
 | m+1,h=>by
  have hl:=qfN A B m;rw[qgo,getD_eq_getElem?_getD];by_cases e:i<m
  ·have h1:(i+1)*B.st.toNat<=m*B.st.toNat:=mul_le_mul_right _ e
   rw[Nat.add_mul,Nat.one_mul]at h1;rw[getElem?_append_left om,<-getD_eq_getElem?_getD];exact qpp hj e
  ·have e2:i=m:=by omega
   subst e2;rw[getElem?_append_right om,hl,Nat.add_sub_cancel_left];simp[kP,hj]
theorem qvV (hE:bU A B=0):Ar A/\Ar B/\A.au=B.au/\A.st*B.st<=4096/\vb A B<=65536:=by
 unfold bU at hE;split at hE
 ·rename_i h
  split at hE
  ·exact absurd hE (by decide)
  rename_i h2;split at hE
  ·exact absurd hE (by decide)
  rename_i h3;exact⟨h.1,h.2.1,h.2.2,by omega,by omega⟩
 ·exact absurd hE (by decide)
theorem qjK {x y a b:Int}(mC:0<=x) (hx:x<a) (sU:0<=y) (hy:y<b):0<=x*b+y/\x*b+y<a*b:=by
 have h1:0<=x*b:=Int.mul_nonneg mC om;have h2:(x+1)*b<=a*b:=Int.mul_le_mul_of_nonneg_right om om;rw[Int.add_mul,Int.one_mul]at h2;omega
theorem quQ (ha:By t A φ) (hb:By t B ψ) (hE:bU A B=0):By t (eL A B) (fun s=>φ s*B.st+ψ s):=by
 obtain⟨hva,ru,gg,cu,hpm⟩:=qvV hE;have hQ:eL A B=⟨A.st*B.st,A.aY*B.st+B.aY,A.au,dN df (jN A B),jO A B⟩:=by unfold eL;rw[if_pos hE]
 rw[hQ];refine⟨fun s hs=>?_,ha.cost,fun s op hs ho kb=>?_,fun s hs hh=>?_⟩
 ·have h1:=ha.cC s hs
  have h2:=hb.cC s hs;exact qjK h1.1 h1.2 h2.1 h2.2
 ·have hl:op<A.au.length:=by rw[ha.cost,uz];exact ho
  refine(qgk kK).2 (mem_flatMap.2 ⟨op,mem_range.2 hl,mem_flatMap.2 ⟨⟨φ s,(op:Int),φ (bm t s op)⟩,?_,mem_map.2 ⟨⟨ψ s,(op:Int),ψ (bm t s op)⟩,?_,rfl⟩⟩⟩)
  ·exact(vd (g:=fun e:Au=>e.bI) hl).2 ⟨ha.pL s op hs ho kb,rfl⟩
  ·exact(vd (g:=fun e:Au=>e.bI) (by rw[<-gg];exact hl)).2 ⟨hb.pL s op hs ho kb,rfl⟩
 ·have h1:=ha.cC s hs
  have h2:=hb.cC s hs;have e1:(φ s*B.st+ψ s).toNat=(φ s).toNat*B.st.toNat+(ψ s).toNat:=by
   have hm:0<=φ s*B.st:=Int.mul_nonneg h1.1 om;have e2:(((φ s).toNat*B.st.toNat:Nat):Int)=φ s*B.st:=by
    rw[Int.natCast_mul,Int.toNat_of_nonneg h1.1,Int.toNat_of_nonneg om]
   omega
  show (jo A B A.st.toNat).getD (φ s*B.st+ψ s).toNat ah.dflt=true;rw[e1,qpp om om,ha.goal s hs hh,hb.goal s hs hh];rfl
theorem quR {n:Nat}{x:Int}(h0:0<=x) (h1:x<n):(bX n).getD x.toNat aa.dflt=x:=by
 have h:x.toNat<n:=by omega
 simp[bX,List.getD,h];omega
theorem qli {M:Int}(h:By t S φ) (hg:Af t) (hE:bA S M=0):By t (cb S M) (fun s=>(dZ S M).getD (φ s).toNat aa.dflt):=by
 by_cases hm:S.st<=M
 ·have hC:dZ S M=bX S.st.toNat:=by unfold dZ;rw[if_pos hm]
  have hS:cb S M=S:=by unfold cb;rw[if_pos hm]
  rw[hC,hS];refine h.congr hg fun s hs=>?_;have:=h.cC s hs;exact quR this.1 om
 ·by_cases hv:Ar S
  ·have hC:dZ S M=dS S M:=by unfold dZ;rw[if_neg hm,if_pos hv]
   have hS:cb S M=fF S (dS S M):=by unfold cb;rw[if_neg hm,if_pos hv]
   have hE2:cQ S (dS S M)=0:=by unfold bA at hE;rwa[if_neg hm,if_pos hv]at hE
   rw[hC,hS];exact quP h hg hE2
  ·unfold bA at hE
   rw[if_neg hm,if_neg hv]at hE;exact absurd hE (by decide)
theorem qmB {vars s:List Int}{v:Int}:bj vars [v] s=sg s v:=by
 simp[bj,dV,cN,mix]
theorem qtP {M:Int}(hg:Af t):∀ k,k<t.vars.length->(fV t M (k+1)).err=0->(fV t M (k+1)).de≠[]/\By t (fV t M (k+1)).cur (fun s=>lh s (fV t M (k+1)).de)
 | 0,hk,he=>by
  have hp:∀ v∈[(0:Int)],0<=v/\v<t.vars.length:=fun v hv=>by rw[mem_singleton.1 hv];omega
  have e:fV t M 1=jF t M 0:=rfl;rw[e]at he ⊢;unfold jF at he ⊢;by_cases h1:bM t [0]≠0
  ·rw[if_pos h1]at he;exact absurd he h1
  rw[if_neg h1]at he ⊢;by_cases h2:bA (cj t [0]) M≠0
  ·rw[if_pos h2]at he;exact absurd he h2
  rw[if_neg h2];have h3:=qli (M:=M) (qim hg hp) hg (Classical.not_not.1 h2);refine⟨by simp,h3.congr hg fun s hs=>?_⟩;show (dZ (cj t [0]) M).getD (s.getD (0:Int).toNat aa.dflt).toNat aa.dflt=_
  rw[qmB]
 | k+1,hk,he=>by
  have hp:∀ v∈[((k+1:Nat):Int)],0<=v/\v<t.vars.length:=fun v hv=>by rw[mem_singleton.1 hv];omega
  have e:fV t M (k+1+1)=jG t M (fV t M (k+1)) ((k+1:Nat):Int):=rfl;rw[e]at he ⊢;have ih:=qtP hg k (M:=M) om;generalize fV t M (k+1)=X at ih he ⊢;generalize hv:((k+1:Nat):Int)=v at hp he ⊢;clear hv e;unfold jG at he ⊢;by_cases h0:X.err≠0
  ·rw[if_pos h0]at he;exact absurd he h0
  rw[if_neg h0]at he ⊢;by_cases h1:bM t [v]≠0
  ·rw[if_pos h1]at he;exact absurd he h1
  rw[if_neg h1]at he ⊢;obtain⟨ih1,ih2⟩:=ih (Classical.not_not.1 h0);simp only at he ⊢;generalize ji M X.cur.st (cj t [v]).st=lr at he ⊢;by_cases h2:bA X.cur lr.1≠0
  ·rw[if_pos h2]at he;exact absurd he h2
  rw[if_neg h2]at he ⊢;by_cases h3:bA (cj t [v]) lr.2≠0
  ·rw[if_pos h3]at he;exact absurd he h3
  rw[if_neg h3]at he ⊢;by_cases h4:bU (cb X.cur lr.1) (cb (cj t [v]) lr.2)≠0
  ·rw[if_pos h4]at he;exact absurd he h4
  rw[if_neg h4];have g1:=qli ih2 hg (Classical.not_not.1 h2);have g2:=qli (M:=lr.2) (qim hg hp) hg (Classical.not_not.1 h3);have g3:=quQ g1 g2 (Classical.not_not.1 h4);refine⟨by simp,g3.congr hg fun s hs=>?_⟩;show lh s (X.de++[_])=_;rw[qij ih1,qmB]
theorem quS {M:Int}(hg:Af t) (hE:dh t M=0):Ar (fV t (iz M) t.vars.length).cur/\By t (fV t (iz M) t.vars.length).cur (fun s=>lh s (na t M)):=by
 unfold dh at hE;by_cases h1:(fV t (iz M) t.vars.length).err≠0
 ·rw[if_pos h1]at hE;exact absurd hE h1
 rw[if_neg h1]at hE;by_cases h2:Ar (fV t (iz M) t.vars.length).cur;rotate_left
 ·rw[if_neg h2]at hE;exact absurd hE (by decide)
 refine⟨h2,?_⟩;unfold na
 cases hn:t.vars.length with
 | zero =>
  rw[hn]at h1 h2;have h3:bM t []=0:=Classical.not_not.1 h1;have h4:(fV t (iz M) 0).cur=cj t []:=by show gD t [] (bM t [])=_;unfold gD;rw[if_pos h3]
  rw[h4]
  refine(qim hg (p:=[]) fun v hv=>absurd hv not_mem_nil).congr hg fun s hs=>rfl
 | succ k =>
  rw[hn]at h1;exact(qtP hg k om (Classical.not_not.1 h1)).2
theorem quT (hg:Af t) (h:By t S φ) (hv:Ar S):(∀ i:Nat,0<=(j8 S).getD i aa.dflt/\(j8 S).getD i aa.dflt<=inf) /\
  (∀ s op,Ac t.vars s->op<t.ops.length->A6 t s op->(j8 S).getD (φ s).toNat aa.dflt<=pJ t op+(j8 S).getD (φ (bm t s op)).toNat aa.dflt) /\
  ∀ s,Ac t.vars s->Aq s t.goal->(j8 S).getD (φ s).toNat aa.dflt=0:=by
 have kL:(S.goals.length:Int)=S.st:=hv.2.2.2.2.1;have h1:=hv.1;obtain⟨e1,e2,e3⟩:=qtS (qlx hv) (fr:=eP S.goals S.goals.length) (qin _) (fun i hi=>by have:=qf8.1 hi;omega);have hD:j8 S=(fixF (bB (gk S true)) cR (dG S.st.toNat (eP S.goals S.goals.length))).out:=rfl;rw[hD];generalize fixF (bB (gk S true)) cR (dG S.st.toNat (eP S.goals S.goals.length))=F at e1 e2 e3 ⊢;refine⟨fun i=>?_,fun s op hs ho ha=>?_,fun s hs hh=>?_⟩
 ·by_cases hi:i<S.st.toNat
  ·exact e1.ob i hi
  ·rw[getD_eq_getElem?_getD,getElem?_eq_none (by rw[e1.ol];omega)];exact⟨Int.le_refl _,by decide⟩
 ·have hm:=h.pL s op hs ho ha
  have r1:=h.cC s hs;have r2:=h.cC _ (qA hg hs ho);have pE:BG (gk S true) (oz S true ⟨φ s,(op:Int),φ (bm t s op)⟩):=by
   refine⟨?_,r2.1,?_⟩
   ·exact(vd (g:=fun a:AL=>a.src) (l:=S.ak.map (oz S true)) (x:=(φ (bm t s op)).toNat) om).2 ⟨mem_map.2 ⟨_,hm,rfl⟩,by show φ (bm t s op)=_;omega⟩
   ·show φ (bm t s op)<((gk S true).length:Int)
    rw[show (gk S true).length=S.st.toNat from ve];omega
  have h2:=e2 _ pE;have hc:S.au.getD op aa.dflt=pJ t op:=by rw[h.cost,wV ho];rfl
  have h3:F.out.getD (φ s).toNat aa.dflt<=F.out.getD (φ (bm t s op)).toNat aa.dflt+S.au.getD ((op:Int)).toNat aa.dflt:=h2;rw[Int.toNat_natCast,hc]at h3;omega
 ·have r1:=h.cC s hs
  exact e3 _ (qf8.2 ⟨r1.1,by omega,h.goal s hs hh⟩)
end
theorem qtQ {t:Aa}{M:Int}(hg:Af t) (hE:dh t M=0):Dh t (kQ t M)/\Cons t (kQ t M)/\∀ s,Ac t.vars s->Aq s t.goal->kQ t M s=0:=by
 obtain⟨hv,hh⟩:=quS hg hE;obtain⟨h1,h2,h3⟩:=quT hg hh hv;exact⟨⟨hg,fun y=>(h1 _).1,fun y=>(h1 _).2⟩,h2,h3⟩
theorem qu4 {a b:Au}(h1:a.src=b.src) (h2:a.bI=b.bI) (h3:a.dst=b.dst):a=b:=by
 cases a;cases b;simp only at h1 h2 h3;subst h1;subst h2;subst h3;rfl
theorem qmO {a b:Au}(h1:¬df a b<0) (h2:¬df b a<0):a=b:=by
 rw[tC]at h1 h2;exact qu4 om om om
theorem qpS {a b c:Au}(h1:df a b<0) (h2:df b c<0):df a c<0:=by
 rw[tC]at h1 h2 ⊢;omega
theorem qlt {S:Ak}(h1:1<=S.st) (h2:S.st<=4096) (h3:0<=S.aY/\S.aY<S.st) (h4:(S.goals.length:Int)=S.st) (h5:S.au.length<=4096) (h6:S.ak.length<=65536) (h7:∀ c∈S.au,0<=c/\c<=1048576)
  (h8:∀ e∈S.ak,(0<=e.src/\e.src<S.st)/\(0<=e.dst/\e.dst<S.st)/\0<=e.bI/\e.bI<S.au.length) (hp:S.ak.Pairwise fun a b=>df a b<0):Ar S :=
 ⟨h1,h2,h3.1,h3.2,h4,h5,h6,h7,h8,fun i h0 hi=>by
  rw[getD_at om,getD_at hi]
  exact pairwise_iff_getElem.1 hp _ _ _ _ om⟩
theorem Ar.pw {S:Ak}(h:Ar S):S.ak.Pairwise fun a b=>df a b<0:=by
 have h:=h.2.2.2.2.2.2.2.2.2;rw[pairwise_iff_getElem];intro i j hi hj ie;have key:∀ k,(hk:i+k+1<S.ak.length)->df S.ak[i] S.ak[i+k+1]<0:=by
  intro k
  induction k with
  | zero=>intro hk;have:=h (i+1) om om;rw[getD_at om,getD_at om]at this;simpa using this
  | succ k ih =>
   intro hk;have h1:=ih om;have:=h (i+k+1+1) om om;rw[getD_at om,getD_at om]at this;simp only[Nat.add_sub_cancel]at this;exact qpS h1 this
 have:=key (j-i-1) om
 simpa [show i+(j-i-1)+1=j by omega] using this
section
variable {t:Aa}{S A B:Ak}
theorem qiF (hs:AB t) {p:List Int}(hp:A5 t.vars p):Ar (cj t p):=by
 have hg:=hs.cr;have hm:=hs.many;have ho:=hs.ops;have lz:=qer hg.pos hp.mem;have xj:=zC hg.pos hp;have iL:(aB t.vars).length<=512:=by rw[uc hg.pos];omega
 have la:=qjw t p;have vJ:t.ops.length*(aB t.vars).length<=20*512:=Nat.mul_le_mul ho iL;have eN:=uz t;refine qlt lz (by show aL t.vars p<=_;omega) (k9 hg.init hp.mem) ?_ (by show (ar t).length<=_;omega) (by show (aZ t p).length<=_;omega) (qeK hg) (fun e he=>?_) ?_
 ·show ((cP t p (aL t.vars p).toNat).length:Int)=aL t.vars p
  rw[qe9];omega
 ·obtain⟨a,op,b,h1,h2,h3,_,rfl⟩:=qcy.1 he
  exact⟨h1,h3,by show (0:Int)<=(op:Int);omega,by show (op:Int)<((ar t).length:Int);omega⟩
 ·show (fA t p _).Pairwise _
  unfold fA;rw[pairwise_flatMap];refine⟨fun a _=>?_,pairwise_lt_range.imp fun {a a'} bD x hx y hy=>?_⟩
  ·unfold gi
   rw[pairwise_flatMap];refine⟨fun op _=>?_,pairwise_lt_range.imp fun {o o'} bD x hx y hy=>?_⟩
   ·unfold iX
    rw[pairwise_map];refine(qet _ _).imp ?_;intro x y tw;exact tC.2 (.inr ⟨rfl,.inr ⟨rfl,tw⟩⟩)
   ·unfold iX at hx hy
    obtain⟨u,_,rfl⟩:=mem_map.1 hx;obtain⟨v,_,rfl⟩:=mem_map.1 hy;exact tC.2 (.inr ⟨rfl,.inl (by show (o:Int)<(o':Int);omega)⟩)
  ·unfold gi iX at hx hy
   obtain⟨o,_,hx⟩:=mem_flatMap.1 hx;obtain⟨o',_,hy⟩:=mem_flatMap.1 hy;obtain⟨u,_,rfl⟩:=mem_map.1 hx;obtain⟨v,_,rfl⟩:=mem_map.1 hy;exact tC.2 (.inl (by show (a:Int)<(a':Int);omega))
theorem qu5 {c:List Int}{k:Int}(hv:Ar S) (hk:0<=k) (hc:AJ c S.st k):cQ S c=0/\Ar (fF S c)/\(fF S c).st=k/\(fF S c).au=S.au:=by
 obtain⟨k1,k2⟩:=qrj hk hc;have hE:cQ S c=0:=by unfold cQ;rw[if_pos ⟨xX hv,k1⟩]
 have hQ:fF S c=⟨k,c.getD S.aY.toNat aa.dflt,S.au,ix (dN df (S.ak.map (kN c))),kO S.goals c k.toNat⟩:=by unfold fF;rw[if_pos hE,k2]
 rw[hQ];refine⟨hE,?_,rfl,rfl⟩;have j7:=qtN hc hv.1;have lA:=hc;obtain⟨c1,c2,c3,c4⟩:=hc;obtain⟨v1,v2,v3,v4,v5,v6,v7,v8,v9,_⟩:=hv;have fT:k<=S.st:=by have:=c2 _ (c4 (k-1) om om);omega
 refine qlt j7 (by show k<=_;omega) (qjJ lA v3 v4) ?_ v6 ?_ v8 (fun e he=>?_) ?_
 ·show ((kO S.goals c k.toNat).length:Int)=k
  have:(kO S.goals c k.toNat).length=k.toNat:=by simp[kO]
  omega
 ·have h1:=qpX (dN df (S.ak.map (kN c)))
  rw[zT kK,length_map]at h1;show (ix (dN df (S.ak.map (kN c)))).length<=_;omega
 ·have h1:=(qgk kK).1 (qiI.1 he)
  obtain⟨x,hx,rfl⟩:=mem_map.1 h1;obtain⟨⟨s0,s1⟩,⟨d0,d1⟩,l0,l1⟩:=v9 x hx;exact⟨qjJ lA s0 s1,qjJ lA d0 d1,l0,l1⟩
 ·exact qtZ (lt:=fun a b=>df a b<0) (fun x y h1 h2=>qmO h1 h2) (fun x y z h1 h2=>qpS h1 h2) (qtY kK)
theorem qvW (hv:Ar S):∃ L:List ByteArray,L.length=S.st.toNat/\j9 S=cm L:=by
 have kL:(S.goals.length:Int)=S.st:=hv.2.2.2.2.1;have key:∀ m (L:List ByteArray) j,L.length=S.st.toNat->gE (e7 S) j (kB S)=(cm L,(bF L).length,false)->S.st.toNat+1-(bF L).length<=m->∃ L:List ByteArray,L.length=S.st.toNat/\j9 S=cm L:=by
  intro m
  induction m with
  | zero =>
   intro L j hl _ hm;have:=wO L
   omega
  | succ m ih =>
   intro L j hl hj hm;have iv:=wO L;have cu:gE (e7 S) (j+1) (kB S)=(cm (fj S (cm L)),(bF (fj S (cm L))).length,decide ((bF (fj S (cm L))).length=(bF L).length)):=by
    show e7 S (gE (e7 S) j (kB S))=_;rw[hj];rfl
   have oC:=qnu (S:=S) (l:=L) hl;have iI:=qnt S (cm L);have qye:=wO (fj S (cm L));by_cases hd:(bF (fj S (cm L))).length=(bF L).length
   ·rw[decide_eq_true hd]at cu
    refine⟨fj S (cm L),iI,?_⟩;unfold j9;rw[fixF_eq (qgV S) (n:=j+1) (by rw[cu];rfl),cu]
   ·rw[decide_eq_false hd]at cu
    exact ih _ (j+1) iI cu om
 exact key _ (S.goals.map il) 0 (by rw[length_map];omega) rfl (Nat.le_refl _)
theorem qu6 (L:List ByteArray):AJ (cm L) L.length (bF L).length:=by
 have iv:=wO L;have hr:∀ x∈cm L,0<=x/\x<((bF L).length:Int):=fun x hx=>by
  obtain⟨i,hi,rfl⟩:=getElem_of_mem hx;have h1:=zW (l:=L) (i:=i) (by rw[uR]at hi;exact hi)
  rwa[getD_at hi]at h1
 refine⟨by rw[uR],fun x hx=>?_,fun x hx=>(hr x hx).2,fun x h0 h1=>?_⟩
 ·have:=hr x hx;omega
 ·obtain⟨i,hi,e⟩:=qns (l:=L) (v:=x.toNat) om
  rw[Int.toNat_of_nonneg h0]at e;rw[<-e];exact bY _ (by rw[uR];exact hi)
theorem qvX {C:List Int}{n:Int}{k i kk:Nat}(h:AJ C n k) (h1:i<kk) (h2:kk<k):AJ (C.map (j0 i kk)) n ((k-1:Nat):Int):=by
 obtain⟨c1,c2,c3,c4⟩:=h;refine⟨by rw[length_map];exact c1,fun x hx=>?_,fun x hx=>?_,fun x h0 hx=>?_⟩
 ·obtain⟨y,hy,rfl⟩:=mem_map.1 hx
  have a:=c2 y hy;have b:=c2 _ (c4 (kk:Int) om om);unfold j0;split
  ·omega
  ·split<;>omega
 ·obtain⟨y,hy,rfl⟩:=mem_map.1 hx
  have a:=c3 y hy;unfold j0;split
  ·omega
  ·split<;>omega
 ·by_cases hk:x<(kk:Int)
  ·refine mem_map.2 ⟨x,c4 x h0 om,?_⟩
   unfold j0;rw[if_neg om,if_neg om]
  ·refine mem_map.2 ⟨x+1,c4 (x+1) om om,?_⟩
   unfold j0;rw[if_neg om,if_pos om];omega
theorem qu7 (hv:Ar S) {M:Int}(h1:1<=M) (h2:M<=4096):∃ k:Nat,(k:Int)<=M/\AJ (dS S M) S.st k:=by
 obtain⟨L,hL,hb⟩:=qvW hv;have cu:=hv.1;have hM:(max 1 (min M 4096)).toNat=M.toNat:=by omega
 have hc:=qu6 L;rw[<-hb,show (L.length:Int)=S.st by omega]at hc;have uh:fW (j9 S)+1=((bF L).length:Int):=by
  have hl:0<(j9 S).length:=by obtain⟨c1,_⟩:=hc;omega
  have hi:=qjg hl;obtain⟨c1,c2,c3,c4⟩:=hc;have a:=c3 _ hi;have b:=c2 _ hi;have c:=qq3 (c4 (((bF L).length:Int)-1) om om);omega
 have hG:(r8 S.goals (j9 S) (fW (j9 S)+1).toNat).length=(bF L).length:=by
  have:(r8 S.goals (j9 S) (fW (j9 S)+1).toNat).length=(fW (j9 S)+1).toNat:=by simp[r8]
  omega
 unfold dS;rw[hM];rw[<-hG]at hc;generalize r8 S.goals (j9 S) (fW (j9 S)+1).toNat=G0 at hc ⊢;generalize j9 S=C0 at hc ⊢;have key:∀ m (C:List Int) (G:List Bool) j,gE (eu M.toNat) j (C0,G0)=(C,G)->AJ C S.st G.length->G.length<=m->∃ k:Nat,(k:Int)<=M/\AJ (fixF (eu M.toNat) (ka M.toNat) (C0,G0)).1 S.st k:=by
  intro m
  induction m with
  | zero =>
   intro C G j hj hc hm;rw[fixF_eq (qd5 M.toNat) (n:=j) (by rw[hj];unfold ka;exact decide_eq_true (by show G.length<=_;omega)),hj]
   exact⟨G.length,by omega,hc⟩
  | succ m ih =>
   intro C G j hj hc hm;by_cases hd:G.length<=M.toNat
   ·rw[fixF_eq (qd5 M.toNat) (n:=j) (by rw[hj];unfold ka;exact decide_eq_true hd),hj]
    exact⟨G.length,by omega,hc⟩
   ·obtain⟨p1,p2⟩:=qus (g:=G) om
    have fE:gE (eu M.toNat) (j+1) (C0,G0)=(C.map (j0 (nb G).1 (nb G).2),G.eraseIdx (nb G).2):=by
     show eu M.toNat (gE (eu M.toNat) j _)=_;rw[hj];unfold eu;rw[if_neg hd]
    have la:(G.eraseIdx (nb G).2).length=G.length-1:=length_eraseIdx_of_lt p2;refine ih _ _ (j+1) fE ?_ om;rw[la];exact qvX hc p1 p2
 exact key _ C0 G0 0 rfl hc (Nat.le_refl _)
theorem qlu {M:Int}(hv:Ar S) (h1:1<=M) (h2:M<=4096):bA S M=0/\Ar (cb S M)/\(cb S M).st<=M/\(cb S M).au=S.au:=by
 by_cases hm:S.st<=M
 ·have hE:bA S M=0:=by unfold bA;rw[if_pos hm]
  have hS:cb S M=S:=by unfold cb;rw[if_pos hm]
  rw[hS];exact⟨hE,hv,hm,rfl⟩
 ·have hS:cb S M=fF S (dS S M):=by unfold cb;rw[if_neg hm,if_pos hv]
  have hE:bA S M=cQ S (dS S M):=by unfold bA;rw[if_neg hm,if_pos hv]
  obtain⟨k,hk,hc⟩:=qu7 hv h1 h2;obtain⟨q1,q2,q3,q4⟩:=qu5 hv om hc;rw[hS,hE];exact⟨q1,q2,by rw[q3];exact hk,q4⟩
theorem qlv {x y x' y' b:Int}(h:x*b+y=x'*b+y') (h1:0<=y) (h2:y<b) (h3:0<=y') (h4:y'<b):x=x'/\y=y':=by
 have key:∀ {u v p q:Int},u<v->0<=p->p<b->0<=q->u*b+p<v*b+q:=fun {u v p q} yU _ hp hq=>by
  have h5:(u+1)*b<=v*b:=Int.mul_le_mul_of_nonneg_right om om;rw[Int.add_mul,Int.one_mul]at h5;omega
 rcases Int.lt_trichotomy x x' with hl|hl|hl
 ·have:=key hl h1 h2 h3;omega
 ·subst hl;omega
 ·have:=key hl h3 h4 h1;omega
theorem vK {l:Nat}(hl:l<S.au.length) {e:Au}:e∈(bL S).getD l []↔e∈S.ak/\e.bI=(l:Int):=vd (g:=fun e:Au=>e.bI) hl
theorem qpT (hv:Ar S) {l:Nat}(hl:l<S.au.length):((bL S).getD l []).Pairwise fun a b=>df a b<0:=by
 unfold bL;rw[qgW hl];exact hv.pw.filter _
theorem qtW (hv:Ar S) {l:Nat}(hl:l<S.au.length):((bL S).getD l []).length<=S.st.toNat*S.st.toNat:=by
 have h1:=hv.1;have he:=hv.2.2.2.2.2.2.2.2.1;have hpw:=qpT hv hl;have gY:=fun {e:Au}=>vK (S:=S) hl (e:=e);generalize (bL S).getD l []=E at hpw gY ⊢;have yV:∀ e∈E,((0<=e.src/\e.src<S.st)/\(0<=e.dst/\e.dst<S.st))/\e.bI=(l:Int):=fun e hm=>by
  obtain⟨a,b⟩:=gY.1 hm;have:=he e a;exact⟨⟨this.1,this.2.1⟩,b⟩
 have fe:(E.map fun e=>e.src*S.st+e.dst).Nodup:=by
  rw[nodup_iff_pairwise_ne,pairwise_map];refine Pairwise.imp_of_mem (fun {a b} ha hb bD e=>?_) hpw;obtain⟨⟨_,a2⟩,a3⟩:=yV a ha;obtain⟨⟨_,b2⟩,b3⟩:=yV b hb;obtain⟨e1,e2⟩:=qlv e a2.1 a2.2 b2.1 b2.2;rw[tC]at bD;omega
 have cL:=qex (N:=S.st.toNat*S.st.toNat) fe fun v hm=>by
  obtain⟨e,j6,rfl⟩:=mem_map.1 hm;obtain⟨⟨a1,a2⟩,_⟩:=yV e j6;have:=qjK a1.1 a1.2 a2.1 a2.2;rw[Int.natCast_mul,Int.toNat_of_nonneg om];exact this
 rwa[length_map]at cL
theorem qpU (ha:Ar A) (hb:Ar B) (hc:A.au=B.au) (hp:A.st*B.st<=20):∀ k,k<=A.au.length->gp A B k<=k*400
 | 0,_=>by simp[gp]
 | k+1,hk=>by
  have ih:=qpU ha hb hc hp k om;have h1:=qtW ha (l:=k) om;have h2:=qtW hb (l:=k) (by rw[<-hc];omega);have a1:=ha.1;have b1:=hb.1;have pC:A.st.toNat*B.st.toNat<=20:=by
   have e2:((A.st.toNat*B.st.toNat:Nat):Int)=A.st*B.st:=by
    rw[Int.natCast_mul,Int.toNat_of_nonneg om,Int.toNat_of_nonneg om]
   omega
  have h3:=Nat.mul_le_mul h1 h2;have h4:A.st.toNat*A.st.toNat*(B.st.toNat*B.st.toNat)=(A.st.toNat*B.st.toNat)*(A.st.toNat*B.st.toNat):=Nat.mul_mul_mul_comm ..;have h5:=Nat.mul_le_mul pC pC;rw[qcu];omega
theorem qu8 (ha:Ar A) (hb:Ar B) (hc:A.au=B.au):(jN A B).Nodup:=by
 have hea:=ha.2.2.2.2.2.2.2.2.1;have uA:=hb.2.2.2.2.2.2.2.2.1;rw[nodup_iff_pairwise_ne];unfold jN;rw[pairwise_flatMap];refine⟨fun l hl=>?_,pairwise_lt_range.imp fun {l l'} bD x hx y hy e=>?_⟩
 ·rw[mem_range]at hl
  have nW:l<B.au.length:=by rw[<-hc];exact hl
  rw[pairwise_flatMap];refine⟨fun e he=>?_,Pairwise.imp_of_mem (fun {e e'} qx qyJ bD x hx y hy tw=>?_) (qpT ha hl)⟩
  ·rw[pairwise_map]
   refine Pairwise.imp_of_mem (fun {f f'} hf hf' bD tw=>?_) (qpT hb nW);obtain⟨f1,f2⟩:=(vK nW).1 hf;obtain⟨g1,g2⟩:=(vK nW).1 hf'
   injection tw with x1 x2 x3
   rw[tC]at bD;omega
  ·obtain⟨f,hf,rfl⟩:=mem_map.1 hx
   obtain⟨f',hf',rfl⟩:=mem_map.1 hy;obtain⟨f1,f2⟩:=(vK nW).1 hf;obtain⟨g1,g2⟩:=(vK nW).1 hf';obtain⟨e1,e2⟩:=(vK hl).1 qx;obtain⟨e3,e4⟩:=(vK hl).1 qyJ;obtain⟨p1,p2,_⟩:=uA f f1;obtain⟨q1,q2,_⟩:=uA f' g1
   injection tw with x1 x2 x3
   have y1:=qlv x1 p1.1 p1.2 q1.1 q1.2;have y2:=qlv x3 p2.1 p2.2 q2.1 q2.2;rw[tC]at bD;omega
 ·obtain⟨e1,_,hx⟩:=mem_flatMap.1 hx
  obtain⟨e2,_,hy⟩:=mem_flatMap.1 hy;obtain⟨f,hf,rfl⟩:=mem_map.1 hx;obtain⟨f',hf',rfl⟩:=mem_map.1 hy
  injection e with x1 x2 x3
  omega
theorem qu9 (ha:Ar A) (hb:Ar B) (hc:A.au=B.au) (hp:A.st*B.st<=20) (hl:A.au.length<=20):bU A B=0/\Ar (eL A B)/\(eL A B).st=A.st*B.st/\(eL A B).au=A.au:=by
 have hm:=qpU ha hb hc hp A.au.length (Nat.le_refl _);have hE:bU A B=0:=by
  unfold bU;rw[if_pos ⟨ha,hb,hc⟩,if_neg om,if_neg (by show ¬65536<gp A B A.au.length;omega)]
 have hQ:eL A B=⟨A.st*B.st,A.aY*B.st+B.aY,A.au,dN df (jN A B),jO A B⟩:=by unfold eL;rw[if_pos hE]
 rw[hQ];refine⟨hE,?_,rfl,rfl⟩;have fe:=qu8 ha hb hc;have la:=qiN A B A.au.length;rw[qp7]at la;obtain⟨a1,a2,a3,a4,a5,a6,a7,a8,a9,_⟩:=ha;obtain⟨b1,b2,b3,b4,b5,b6,b7,b8,b9,_⟩:=hb;have ij:1<=A.st*B.st:=by
  have:=Int.mul_le_mul a1 b1 om om
  simpa using this
 refine qlt ij (by show A.st*B.st<=_;omega) (qjK a3 a4 b3 b4) ?_ a6 ?_ a8 (fun e he=>?_) ?_
 ·show ((jo A B A.st.toNat).length:Int)=A.st*B.st
  rw[qfN,Int.natCast_mul,Int.toNat_of_nonneg om,Int.toNat_of_nonneg om]
 ·show (dN df (jN A B)).length<=_
  rw[zT kK];omega
 ·obtain⟨l,hl1,h1⟩:=mem_flatMap.1 ((qgk kK).1 he)
  rw[mem_range]at hl1;have nW:l<B.au.length:=by rw[<-hc];exact hl1
  obtain⟨e1,mW,h2⟩:=mem_flatMap.1 h1;obtain⟨f,hf,rfl⟩:=mem_map.1 h2;obtain⟨s1,d1,_⟩:=a9 e1 ((vK hl1).1 mW).1;obtain⟨s2,d2,_⟩:=b9 f ((vK nW).1 hf).1;exact⟨qjK s1.1 s1.2 s2.1 s2.2,qjK d1.1 d1.2 d2.1 d2.2,by show (0:Int)<=(l:Int);omega,by show (l:Int)<(A.au.length:Int);omega⟩
 ·have h1:=qtY kK (l:=jN A B)
  have h2:(dN df (jN A B)).Pairwise (·≠·):=nodup_iff_pairwise_ne.1 ((qiG kK).nodup_iff.2 fe);exact(h1.and h2).imp fun {a b} h=>Classical.byContradiction fun hn=>h.2 (qmO hn h.1)
end
theorem tD:fQ 20=4:=by
 obtain⟨h1,h2⟩:=qia 20;have h3:=h2 4 (by decide);generalize fQ 20=r at h1 h3;have:r=0\/r=1\/r=2\/r=3\/r=4:=by omega
 rcases this with rfl|rfl|rfl|rfl|rfl
 ·exact absurd h1 (by decide)
 ·exact absurd h1 (by decide)
 ·exact absurd h1 (by decide)
 ·exact absurd h1 (by decide)
 ·rfl
theorem qw2 {a b x y:Int}(ha:1<=a) (ha2:a<=4096) (hb:1<=b) (o0:b<=4096) (mC:0<=x) (hx:x<=(ji 20 a b).1) (sU:0<=y) (hy:y<=(ji 20 a b).2):x*y<=20:=by
 unfold ji at hx hy;rw[tD]at hx hy;have e4:((4:Nat):Int)=4:=rfl;rw[e4]at hx hy;by_cases h:a*b>20
 ·rw[if_pos h]at hx hy
  by_cases h1:a<=4
  ·rw[if_pos h1]at hx hy
   have:a=1\/a=2\/a=3\/a=4:=by omega
   have hm:=Int.mul_le_mul hx hy sU (by show 0<=a;omega);refine Int.le_trans hm ?_;rcases this with rfl|rfl|rfl|rfl<;>decide
  ·rw[if_neg h1]at hx hy
   by_cases h2:b<=4
   ·rw[if_pos h2]at hx hy
    have:b=1\/b=2\/b=3\/b=4:=by omega
    have hm:=Int.mul_le_mul hx hy sU (by rcases this with rfl|rfl|rfl|rfl<;>decide);refine Int.le_trans hm ?_;rcases this with rfl|rfl|rfl|rfl<;>decide
   ·rw[if_neg h2]at hx hy
    have hm:=Int.mul_le_mul hx hy sU (by decide);exact Int.le_trans hm (by decide)
 ·rw[if_neg h]at hx hy
  have hm:=Int.mul_le_mul hx hy sU (by show 0<=a;omega);have h3:a*b<=20:=by omega
  exact Int.le_trans hm h3
theorem qpV {a b:Int}(ha:1<=a) (ha2:a<=4096) (hb:1<=b) (o0:b<=4096):(1<=(ji 20 a b).1/\(ji 20 a b).1<=4096)/\1<=(ji 20 a b).2/\(ji 20 a b).2<=4096:=by
 unfold ji;rw[tD];have e4:((4:Nat):Int)=4:=rfl;rw[e4];by_cases h:a*b>20
 ·rw[if_pos h]
  by_cases h1:a<=4
  ·rw[if_pos h1]
   have:a=1\/a=2\/a=3\/a=4:=by omega
   refine⟨⟨ha,ha2⟩,?_⟩;rcases this with rfl|rfl|rfl|rfl<;>exact⟨by decide,by decide⟩
  ·rw[if_neg h1]
   by_cases h2:b<=4
   ·rw[if_pos h2]
    have:b=1\/b=2\/b=3\/b=4:=by omega
    refine⟨?_,hb,o0⟩;rcases this with rfl|rfl|rfl|rfl<;>exact⟨by decide,by decide⟩
   ·rw[if_neg h2]
    exact⟨⟨by decide,by decide⟩,by decide,by decide⟩
 ·rw[if_neg h]
  exact⟨⟨ha,ha2⟩,hb,o0⟩
section
variable {t:Aa}
theorem qpW {k:Nat}(hk:k<t.vars.length):A5 t.vars [(k:Int)]:=⟨fun v hv=>by rw[mem_singleton.1 hv];omega,by simp⟩
theorem qtX (hs:AB t):∀ k,k<t.vars.length->(fV t 20 (k+1)).err=0/\Ar (fV t 20 (k+1)).cur/\(fV t 20 (k+1)).cur.au=ar t/\(fV t 20 (k+1)).cur.st<=20
 | 0,hk=>by
  have hp:=qpW hk;have e:fV t 20 1=jF t 20 0:=rfl;rw[e];have e1:bM t [(0:Int)]=0:=(zD hs hp).1;obtain⟨h1,h2,h3,h4⟩:=qlu (M:=20) (qiF hs hp) (by decide) (by decide);have h1:bA (cj t [(0:Int)]) 20=0:=h1;unfold jF;rw[if_neg (by rw[e1];decide),if_neg (by rw[h1];decide)]
  exact⟨rfl,h2,h4,h3⟩
 | k+1,hk=>by
  obtain⟨i1,i2,i3,i4⟩:=qtX hs k om;have hp:=qpW hk;have e:fV t 20 (k+1+1)=jG t 20 (fV t 20 (k+1)) ((k+1:Nat):Int):=rfl;rw[e];generalize fV t 20 (k+1)=X at i1 i2 i3 i4 ⊢;generalize ((k+1:Nat):Int)=v at hp ⊢;have e1:bM t [v]=0:=(zD hs hp).1;have hA:=qiF hs hp;have ud:=hA.2.1;have hAp:=hA.1;have hXs:=i2.2.1;have hXp:=i2.1;obtain⟨⟨l1,l2⟩,l3,l4⟩:=qpV hXp hXs hAp ud;obtain⟨p1,p2,p3,p4⟩:=qlu i2 l1 l2;obtain⟨q1,q2,q3,q4⟩:=qlu hA l3 l4;have hm:=qw2 hXp hXs hAp ud (by have:=p2.1;omega) p3 (by have:=q2.1;omega) q3;have yc:(cj t [v]).au=ar t:=rfl;have eN:=uz t;have ho:=hs.ops;obtain⟨r1,r2,r3,r4⟩:=qu9 p2 q2 (by rw[p4,q4,i3,yc]) hm (by rw[p4,i3];omega);unfold jG;rw[if_neg (by rw[i1];decide),if_neg (by rw[e1];decide)];simp only;rw[if_neg (by rw[p1];decide),if_neg (by rw[q1];decide),if_neg (by rw[r1];decide)];exact⟨rfl,r2,by rw[r4,p4,i3],by show (eL _ _).st<=20;rw[r3];exact hm⟩
theorem qvY (hs:AB t):dh t 20=0:=by
 have e:iz 20=20:=by decide
 have key:(fV t 20 t.vars.length).err=0/\Ar (fV t 20 t.vars.length).cur:=by
  cases hn:t.vars.length with
  | zero =>
   have hp:A5 t.vars []:=⟨fun v hv=>absurd hv not_mem_nil,Pairwise.nil⟩
   have e1:bM t []=0:=(zD hs hp).1;have h4:(fV t 20 0).cur=cj t []:=by show gD t [] (bM t [])=_;unfold gD;rw[if_pos e1]
   exact⟨e1,by rw[h4];exact qiF hs hp⟩
  | succ k =>
   have:=qtX hs k om;exact⟨this.1,this.2.1⟩
 unfold dh;rw[e,if_neg (by rw[key.1];decide),if_pos key.2]
end
section
variable {t:Aa}{s out:List Int}
theorem qqh (hg:Af t) (hs:Ac t.vars s) (h:AW t s out) {f v:Int}(hd:Be (bh t) (BF t.vars s) f v):0<=f->f<ay t->v=dg out f->0<v->v<inf->∃ g:Int,0<=g/\g<ay t/\dg out g<v/\v<=dg out g+1048576:=by
 have hU:=qF hg
 induction hd with
 | start _=>intro _ _ _ h0;omega
 | @gK i vv m hi hm hn hle ih =>
  intro h0 h1 he hv bD;have hc:=hU.cost i hi;have hr:=hU.an i hi;by_cases hex:∃ n∈(un (bh t) i).an,dg out n=m
  ·obtain⟨n,jH,cY⟩:=hex
   have hrn:=hr n jH;by_cases lA:(un (bh t) i).cost=0
   ·have h3:=h.low n (vv n) (hn n jH) hrn.1 hrn.2
    have h4:=hle n jH;obtain⟨g,g1,g2,g3,g4⟩:=ih n jH hrn.1 hrn.2 om om om;exact⟨g,g1,g2,by omega,by omega⟩
   ·exact⟨n,hrn.1,hrn.2,by omega,by omega⟩
  ·have qxc:∀ n∈(un (bh t) i).an,dg out n<m:=fun n jH=>by
    have h3:=h.low n (vv n) (hn n jH) (hr n jH).1 (hr n jH).2;have h4:=hle n jH;have h5:dg out n≠m:=fun e=>hex ⟨n,jH,e⟩;omega
   by_cases sG:0<m
   ·have jI:Be (bh t) (BF t.vars s) (un (bh t) i).makes ((un (bh t) i).cost+(m-1)):=.gK (v:=fun n=>dg out n) hi om (fun n jH=>h.mG n (hr n jH).1 (hr n jH).2 (by have:=qxc n jH;omega)) (fun n jH=>by have:=qxc n jH;show dg out n<=m-1;omega)
    have h3:=h.low _ _ jI h0 h1;omega
   ·have eW:0<t.vars.length:=by
     refine Nat.pos_of_ne_zero fun e=>?_;have h5:=pd hg;rw[e]at h5;have h6:aV t.vars 0=0:=qf3 _;omega
    have cu:BF t.vars s (aV t.vars 0+s.getD 0 aa.dflt):=⟨0,eW,rfl⟩
    have iL:=hs.1;have hs0:=hs.2 0 om;have hb:=qf4 hg.pos eW hs0.1 hs0.2;have h5:=pd hg;have h6:=h.low _ 0 (.start cu) hb.1 om;have h7:=h.cC (aV t.vars 0+s.getD 0 aa.dflt) hb.1 om;exact⟨_,hb.1,by omega,by omega,by omega⟩
def tL (out:List Int) (N:Nat) (x:Int):Nat:=(List.range N).countP fun (g:Nat)=>decide (dg out (g:Int)<x)
theorem qm1 (hg:Af t) (hs:Ac t.vars s) (h:AW t s out):∀ (m:Nat) (f:Int),0<=f->f<ay t->dg out f<inf->tL out (ay t) (dg out f)<=m->dg out f<=1048576*(m:Int):=by
 intro m
 induction m with
 | zero =>
  intro f h0 h1 bD hc;refine Int.not_lt.1 fun hp=>?_;obtain⟨g,g1,g2,g3,g4⟩:=qqh hg hs h (h.mG f h0 h1 bD) h0 h1 rfl om bD;have:0<tL out (ay t) (dg out f):=countP_pos_iff.2 ⟨g.toNat,mem_range.2 om,by rw[Int.toNat_of_nonneg g1];exact decide_eq_true g3⟩
  omega
 | succ m ih =>
  intro f h0 h1 bD hc;by_cases hp:0<dg out f
  ·obtain⟨g,g1,g2,g3,g4⟩:=qqh hg hs h (h.mG f h0 h1 bD) h0 h1 rfl hp bD
   have eN:tL out (ay t) (dg out g)<tL out (ay t) (dg out f):=by
    refine qko (fun x _ hx=>?_) ⟨g.toNat,mem_range.2 om,by rw[Int.toNat_of_nonneg g1];exact decide_eq_true g3,by rw[Int.toNat_of_nonneg g1];exact decide_eq_false (Int.lt_irrefl _)⟩;have:=of_decide_eq_true hx;exact decide_eq_true om
   have:=ih g g1 g2 om om;omega
  ·omega
theorem qt6 (out:List Int) (N:Nat) (x:Int):tL out N x<=N:=by
 have h:=countP_le_length (p:=fun g:Nat=>decide (dg out (g:Int)<x)) (l:=List.range N);rw[length_range]at h;exact h
end
theorem qof {t:Aa}(hg:Af t):∀ y,cp t y<inf->cp t y<=4294967296:=fun y bD=>by
 by_cases hs:Ac t.vars y
 ·obtain⟨out,h⟩:=xA hg y
  rw[tM hs h]at bD ⊢;refine(u9 (by decide)).2 fun f hf=>?_;have h1:dg out (cz t.vars f)<=bQ t.vars t.goal out:=(u9 (wT _ _ _)).1 (Int.le_refl _) f hf;obtain⟨i,hi,e⟩:=getElem_of_mem hf;have br:=(hg.goal i hi).1;rw[getD_at hi,e]at br;have hr:=rz hg.pos br;have hN:=pd hg;have sa:=wS hg;have hc:=qt6 out (ay t) (dg out (cz t.vars f));have h2:=qm1 hg hs h (ay t) _ hr.1 om om hc;omega
 ·rw[qgD hs];decide
theorem qog {t:Aa}(hg:Af t):Cons t (cp t):=fun _ _ hs ho ha=>qkp hg hs ho ha
end Go.Proofs.YtmapkjoefdgjfaaGreatDoor
