/- Several texts. -/
import Derived.Test.YtmapkjoefdgjfaaGreatDoorMW12D
set_option linter.unusedSimpArgs false
set_option linter.unusedVariables false
set_option linter.defProp false
set_option maxRecDepth 8000
set_option maxHeartbeats 16000000
open List Nat
namespace Go.Proofs.YtmapkjoefdgjfaaGreatDoor
open Go.Sl
variable {l p y m:J}{i:Nat}{k c:Int}{K:List Nat}{r:Option (List (List Nat × Int))}
def aZ (t:aa)(cs:J):aa:={ t with Z:=(List.range t.Z.length).map fun i=>{ t.Z.getD i bf with aO:=cs.getD i O.dflt } }
def eu (t:aa)(cs:J):Prop:=cs.length=t.Z.length/\∀ x∈cs,0<=x/\x<=1048576
section
variable {t:aa}{cs:J}
def yO:(aZ t cs).Z.length=t.Z.length:=by simp[aZ]
def Al (hi:i<t.Z.length):(aZ t cs).Z.getD i bf={ t.Z.getD i bf with aO:=cs.getD i O.dflt }:=by
 simp[aZ,List.getD,hi]
def R6 {s:J}{op:Nat}(b:op<t.Z.length):iT (aZ t cs) s op↔iT t s op:=by
 unfold iT;rw[Al b]
def R7 {s:J}{op:Nat}(b:op<t.Z.length):cd (aZ t cs) s op=cd t s op:=by
 unfold cd;rw[Al b]
def HJ {op:Nat}(b:op<t.Z.length):qu (aZ t cs) op=cs.getD op O.dflt:=by
 unfold qu;rw[Al b]
def yP (I:aC t)(h:eu t cs):aC (aZ t cs):=by
 refine⟨I.vars,by rw[yO];exact I.Z,I.nt,I.cE,I.aG,fun i b=>?_⟩;rw[yO]at b;rw[Al b];have e:=I.op i b;have d:=h.2 _ (cD O.dflt (show i<cs.length by rw[h.1];exact b));exact { e with kI:=d.1,nz:=d.2 }
def Õ (I:aC t):aZ t (am t)=t:=by
 have h1:(List.range t.Z.length).map (fun i=>{ t.Z.getD i bf with aO:=(am t).getD i O.dflt })=t.Z:=by
  refine iA sm fun i h1 d=>?_;rw[mL,qW,tC d,al d]
 unfold aZ
 rw[h1]
def jw (cs:J)(K:List Nat)(c:Int):J:=(List.range cs.length).map fun i=>if i∈K then cs.getD i O.dflt-c else cs.getD i O.dflt
def Am (cs:J)(K:List Nat)(c:Int):(jw cs K c).length=cs.length:=by simp[jw]
def yQ (hi:i<cs.length):(jw cs K c).getD i O.dflt=if i∈K then cs.getD i O.dflt-c else cs.getD i O.dflt:=by simp[jw,List.getD,hi]
def qf (cs:J)(K:List Nat)(c:Int):Prop:=(∃ i∈K,i<cs.length/\cs.getD i O.dflt=c)/\∀ i∈K,c<=cs.getD i O.dflt
def Ed (h:eu t cs)(hm:qf cs K c):eu t (jw cs K c):=by
 obtain⟨i0,h1,j,n⟩:=hm.1;have e:=h.2 _ (cD O.dflt j);rw[n]at e;refine⟨by rw[Am];exact h.1,fun x hx=>?_⟩;obtain⟨i,g,rfl⟩:=fF hx;have b:i<cs.length:=by rw[Am]at g;exact g
 rw[<-al (d:=O.dflt) g,yQ b];have o:=h.2 _ (cD O.dflt b);split
 ·rename_i hk;have:=hm.2 i hk;omega
 exact o
def Ö (x:cs.length=t.Z.length)(A:0<=c)(h:lu (aZ t cs) y p k):∃ d,lu (aZ t (jw cs K c)) y p d/\d<=k/\((∃ op:Nat,(op:Int)∈p/\op∈K)->d+c<=k):=by
 induction h with
 | aG n=>exact⟨0,.aG n,du _,fun⟨op,h1,_⟩=>absurd h1 fM⟩
 | @step y op p k b o _ u =>
  rw[yO]at b;obtain⟨d,h1,B,v⟩:=u;rw[R7 b]at h1;refine⟨_,.step (by rw[yO];exact b) ((R6 b).2 ((R6 b).1 o)) (by rw[R7 b];exact h1),?_,fun⟨q,g,j⟩=>?_⟩
  ·rw[HJ b,HJ b,yQ U]
   split<;>omega
  rw[HJ b,HJ b,yQ U];by_cases hk:op∈K
  ·rw[aP hk];omega
  rw[aH hk];rcases dZ.1 g with e|g
  ·rw[Int.ofNat_inj]at e
   subst e;exact absurd j hk
  have:=v ⟨q,g,j⟩;omega
end
inductive q7 (t:aa) (s:J):J->Option (List (List Nat × Int))->Prop
 | qa {cs V:J}:gV (aZ t cs) s V->cW t.vars t.aG V=bD->q7 t s cs none
 | done {cs V:J}:gV (aZ t cs) s V->cW t.vars t.aG V=0->q7 t s cs (some [])
 | step {cs V:J}{g0:Int}{K:List Nat}{c:Int}{r:Option (List (List Nat × Int))}:gV (aZ t cs) s V->0<cW t.vars t.aG V->cW t.vars t.aG V<bD->jx V (dz t) g0->(∀ i,i∈K↔i<t.Z.length/\jc (aZ t cs) s V g0 i)->K.Pairwise (·<·)->qf cs K c->q7 t s (jw cs K c) r->q7 t s cs (r.map ((K,c)::·))
def ml (l:List (List Nat × Int)):Int:=l.foldr (fun x n=>x.2+n) 0
def AK:Option (List (List Nat × Int))->Int|none=>bD|some l=>ml l
def R8:∀ {l m:List Nat},l.Pairwise (·<·)->m.Pairwise (·<·)->(∀ i,i∈l↔i∈m)->l=m
 | [],[],_,_,_=>rfl
 | [],y::m,_,_,h=>absurd ((h y).2 gA) fM
 | x::l,[],_,_,h=>absurd ((h x).1 gA) fM
 | x::l,y::m,j,hm,h=>by
  obtain⟨g,n⟩:=J7.1 j;obtain⟨m1,m2⟩:=J7.1 hm;have e:x=y:=by
   have h1:=(h x).1 gA;have b:=(h y).2 gA;rcases dZ.1 h1 with e|h1
   ·exact e
   rcases dZ.1 b with e|b
   ·exact e.symm
   have:=m1 x h1;have:=g y b;omega
  subst e
  rw[R8 n m2 fun i=>⟨fun d=>by
   rcases dZ.1 ((h i).1 (iR _ d)) with e|b
   ·subst e;have:=g i d;omega
   ·exact b,fun d=>by
   rcases dZ.1 ((h i).2 (iR _ d)) with e|b
   ·subst e;have:=m1 i d;omega
   exact b⟩]
def Ø {cs:J}{b:Int}(h:qf cs K c)(d:qf cs K b):c=b:=by
 obtain⟨⟨i,h1,_,o⟩,e⟩:=h;obtain⟨⟨j,g,_,q⟩,n⟩:=d;have:=e j g;have:=n i h1;omega
section
variable {t:aa}{s:J}
def Ù {cs:J}(h:q7 t s cs r):∀ {j},q7 t s cs j->r=j:=by
 have e:(0:Int)≠bD:=dc
 induction h with
 | qa h1 d =>
  intro j n
  cases n with
  | qa _ _=>rfl
  | done b g=>rw[An h1 b,g]at d;exact absurd d e
  | step b g o _ _ _ _ _=>rw[An h1 b]at d;omega
 | done h1 d =>
  intro j n
  cases n with
  | qa b g=>rw[An h1 b,g]at d;exact absurd d.symm e
  | done _ _=>rfl
  | step b g o _ _ _ _ _=>rw[An h1 b]at d;omega
 | step h1 d q u v x A _ B =>
  intro j n
  cases n with
  | qa b g=>rw[An h1 b]at q;omega
  | done b g=>rw[An h1 b]at d;omega
  | step b g o C F G H L =>
   have N:=An h1 b;subst N;have P:=CQ u C;subst P;have Q:=R8 x G fun i=>(v i).trans (F i).symm;subst Q;have R:=Ø A H;subst R;rw[B L]
def Ú {t:aa}{V:J}{g0:Int}(I:jx V (dz t) g0)(e:0<cW t.vars t.aG V):cW t.vars t.aG V=dg V g0:=by
 obtain⟨f,b,he⟩:=iQ.1 I.1;have h1:dg V g0<=cW t.vars t.aG V:=by rw[<-he];exact(yR (Ao _ _ _)).1 (du _) f b
 refine Ke ?_ h1;by_cases d:0<=dg V g0
 ·exact(yR d).2 fun f b=>I.ge (iQ.2 ⟨f,b,rfl⟩)
 have:cW t.vars t.aG V<=0:=(yR (du _)).2 fun f b=>by have:=I.ge (iQ.2 ⟨f,b,rfl⟩);omega
 omega
def HK {cs V:J}{g0:Int}(I:aC t)(d:ab t.vars s)(g:eu t cs)(hm:gV (aZ t cs) s V)(h:0<cW t.vars t.aG V)(j:cW t.vars t.aG V<bD)(b:jx V (dz t) g0):gE (aZ t cs) s V g0:=by
 have e:=Ú b h;exact⟨yP I g,d,hm,b,U,U⟩
def R9 {cs V:J}{g0:Int}(I:aC t)(o:eu t cs)(x:gE (aZ t cs) s V g0)(hi:i<t.Z.length)(h:jc (aZ t cs) s V g0 i):1<=cs.getD i O.dflt:=by
 obtain⟨u,hu,b,d⟩:=h;have h1:=x.zq hu d;obtain⟨g,j,q,v,rfl⟩:=CS.1 hu;have e:g=i:=by
  have n:(g:Int)=(i:Int):=b;omega
 subst e;have n:0<((aZ t cs).Z.getD g bf).aO:=h1;rw[Al hi]at n;exact n
def Li {cs V:J}{g0:Int}(x:gE (aZ t cs) s V g0):∃ i,i<t.Z.length/\jc (aZ t cs) s V g0 i:=by
 obtain⟨u,hu,b⟩:=x.some;obtain⟨e,j,d,g,rfl⟩:=CS.1 hu;rw[yO]at d;exact⟨e,d,_,hu,rfl,b⟩
def Û (I:aC t)(n:ab t.vars s){cs:J}(h:q7 t s cs r):eu t cs->∀ {p:J}{k:Int},lu (aZ t cs) s p k->∃ l,r=some l/\ml l<=k:=by
 induction h with
 | @qa cs V h1 o =>
  intro g p k j;have b:=yP I g;have u:=(yS (t:=aZ t cs) n h1)
  have v:cw (aZ t cs) s<bD:=by
   have key:∀ {y q:J}{d:Int},lu (aZ t cs) y q d->cw (aZ t cs) y<bD:=by
    intro y q d hq
    induction hq with
    | aG F=>rw[IJ b F];decide
    | @step y op q d B G _ A =>
     by_cases C:ab (aZ t cs).vars y
     ·have g1:=IK b C B G
      have g2:=Nz b _ A;have g3:=B4 b B;have e:bD=1125899906842624:=rfl;omega
     rw[AW C];decide
   exact key j
  rw[u,show cW (aZ t cs).vars (aZ t cs).aG V=bD from o]at v
  omega
 | done _ _ =>
  intro g p k j
  exact⟨[],rfl,j.nn (yP I g)⟩
 | @step cs V g0 K c r h1 o u v C Q F _ A =>
  intro g p k j;have x:=HK I n g h1 o u v;obtain⟨op,G,B,H⟩:=x.y6 j n fun f L=>.st L;rw[yO]at B;obtain⟨⟨i,i1,i2,i3⟩,i4⟩:=F;have b:0<=c:=by have:=g.2 _ (cD O.dflt i2);omega
  obtain⟨R,N,S,P⟩:=Ö (K:=K) g.1 b j;have T:=P ⟨op,G,(C op).2 ⟨B,H⟩⟩;obtain⟨l,e,hl⟩:=A (Ed g ⟨⟨i,i1,i2,i3⟩,i4⟩) N;refine⟨(K,c)::l,by rw[e];rfl,?_⟩;show c+ml l<=k;omega
end
def Sa:∀ {l:List Nat}{x:Nat},x∈l->x<=l.sum
 | [],_,h=>absurd h fM
 | y::l,x,h=>by
  rw[yG];rcases dZ.1 h with e|h
  ·omega
  have:=Sa h;omega
def Sb (f g:Nat->Nat):∀ {l:List Nat},(∀ i∈l,f i<=g i)->(l.map f).sum<=(l.map g).sum
 | [],_=>cz _
 | x::l,h=>by
  have h1:=h x gA;have d:=Sb f g (l:=l) fun i b=>h i (iR _ b);simp only[l8,yG];omega
def Sc (f g:Nat->Nat)(c:Nat):∀ {l:List Nat},(∀ i∈l,f i<=g i)->(∃ i∈l,f i+c<=g i)->(l.map f).sum+c<=(l.map g).sum
 | [],_,h=>by obtain⟨i,b,_⟩:=h;exact absurd b fM
 | x::l,h,d=>by
  have h1:=h x gA;obtain⟨i,b,j⟩:=d;simp only[l8,yG];rcases dZ.1 b with e|b
  ·subst e
   have:=Sb f g (l:=l) fun i b=>h i (iR _ b);omega
  have:=Sc f g c (l:=l) (fun i b=>h i (iR _ b)) ⟨i,b,j⟩;omega
def Lj (cs:J):fT cs=((List.range cs.length).map fun i=>(cs.getD i O.dflt).toNat).sum:=by
 unfold fT;congr 1;refine iA sm fun i h1 d=>?_;have b:i<cs.length:=by simpa using h1
 rw[mL,mL,qW,al b]
def Lk {cs:J}(e:∀ x∈cs,0<=x)(g:0<=c)(hm:qf cs K c):fT (jw cs K c)+c.toNat<=fT cs:=by
 obtain⟨⟨i,h1,b,h⟩,n⟩:=hm;rw[Lj,Lj,Am];refine Sc _ _ _ (fun j d=>?_) ⟨i,mem_range.2 b,?_⟩
 ·rw[yQ (mem_range.1 d)]
  split<;>omega
 rw[yQ b,aP h1];omega
def Sd {cs:J}{B:Nat}(h:∀ x∈cs,x<=(B:Int)):fT cs<=cs.length*B:=by
 induction cs with
 | nil=>exact br _
 | cons x l b =>
  have h1:=h x gA;have d:=b fun y e=>h y (iR _ e);unfold fT at d ⊢;simp only[l8,yG,length_cons,yp];omega
section
variable {t:aa}{s:J}
def Ü {cs:J}(I:aC t)(h:q7 t s cs r):eu t cs->∀ l,r=some l->0<=ml l/\ml l<=(fT cs:Int):=by
 induction h with
 | qa _ _=>intro _ l e;cases e
 | done _ _=>intro _ l e;cases e;exact⟨du _,Cn _⟩
 | @step cs V g0 K c r _ _ _ _ _ _ g _ o =>
  intro j l e;have b:=Ed j g;have hm:=g;obtain⟨⟨i,i1,i2,i3⟩,i4⟩:=g;have n:0<=c:=by have:=j.2 _ (cD O.dflt i2);omega
  cases r with
  | none=>cases e
  | some d =>
   have q:l=(K,c)::d:=(Bh e).symm;subst q;have h1:=o b d rfl;have u:=Lk (fun x hx=>(j.2 x hx).1) n hm;show 0<=c+ml d/\c+ml d<=_;omega
def Se (cs:J):∀ {K:List Nat},K≠[]->(∀ i∈K,i<cs.length)->∃ c,qf cs K c
 | [],h,_=>absurd rfl h
 | [x],_,h=>⟨cs.getD x O.dflt,⟨x,gA,h x gA,rfl⟩,fun i d=>by rw[dp.1 d];exact du _⟩
 | x::y::l,_,h=>by
  obtain⟨c,⟨i,h1,n,o⟩,g⟩:=Se cs (K:=y::l) sm fun i d=>h i (iR _ d);by_cases hx:c<=cs.getD x O.dflt
  ·refine⟨c,⟨i,iR _ h1,n,o⟩,fun j b=>?_⟩
   rcases dZ.1 b with e|b
   ·rw[e];exact hx
   exact g j b
  refine⟨cs.getD x O.dflt,⟨x,gA,h x gA,rfl⟩,fun j b=>?_⟩;rcases dZ.1 b with e|b
  ·rw[e];exact du _
  have:=g j b;omega
structure Fb (t:aa) (s cs V:J) (K:List Nat) (c:Int):Prop where
 Ei:K.Pairwise (·<·)
 min:qf cs K c
 pos:1<=c
 le:c<=1048576
 ne:K≠[]
 lt:∀ i∈K,i<t.Z.length
def Sf {cs V:J}{g0:Int}(I:aC t)(d:eu t cs)(x:gE (aZ t cs) s V g0)(g:∀ i,i∈K↔i<t.Z.length/\jc (aZ t cs) s V g0 i)(h:K.Pairwise (·<·))(hm:qf cs K c):Fb t s cs V K c:=by
 have b:=hm;obtain⟨⟨i,i1,i2,i3⟩,i4⟩:=hm;obtain⟨n,o⟩:=(g i).1 i1;have h1:=R9 I d x n o;have u:=d.2 _ (cD O.dflt i2);exact⟨h,b,U,U,fun e=>by rw[e]at i1;exact absurd i1 fM,fun j q=>((g j).1 q).1⟩
open Classical in
def Ý (I:aC t)(C:ab t.vars s):∀ (m:Nat) {cs:J},eu t cs->fT cs<=m->∃ r,q7 t s cs r:=by
 intro m
 induction m with
 | zero =>
  intro cs d hm;obtain⟨V,h⟩:=Ap (yP I d) s;by_cases o:0<cW t.vars t.aG V
  ·by_cases v:cW t.vars t.aG V<bD
   ·have u:dz t≠[]:=fun e=>by
     have:t.aG=[]:=by simpa [dz] using e
     rw[this]at o;exact absurd o (by simp[cW])
    obtain⟨g0,n⟩:=CT (V:=V) u;have x:=HK I C d h o v n;obtain⟨i,A,g⟩:=Li x;have h1:=R9 I d x A g;have b:(cs.getD i O.dflt).toNat<=fT cs:=by
     rw[Lj];exact Sa (iQ.2 ⟨i,mem_range.2 (by rw[d.1];exact A),rfl⟩)
    omega
   exact⟨_,.qa h (by have:=uY (yP I d) h;have e:cW (aZ t cs).vars (aZ t cs).aG V=cW t.vars t.aG V:=rfl;omega)⟩
  exact⟨_,.done h (by have:=Ao t.vars t.aG V;omega)⟩
 | succ m H =>
  intro cs d hm;obtain⟨V,h⟩:=Ap (yP I d) s;by_cases o:0<cW t.vars t.aG V
  ·by_cases v:cW t.vars t.aG V<bD
   ·have u:dz t≠[]:=fun e=>by
     have:t.aG=[]:=by simpa [dz] using e
     rw[this]at o;exact absurd o (by simp[cW])
    obtain⟨g0,n⟩:=CT (V:=V) u;have x:=HK I C d h o v n;obtain⟨i,A,g⟩:=Li x;have B:∀ j,j∈(List.range t.Z.length).filter (fun j=>decide (jc (aZ t cs) s V g0 j))↔j<t.Z.length/\jc (aZ t cs) s V g0 j:=fun j=>by
     rw[rP,mem_range,gR]
    have q:((List.range t.Z.length).filter (fun j=>decide (jc (aZ t cs) s V g0 j))).Pairwise (·<·):=Pairwise.filter _ Dl;obtain⟨c,b⟩:=Se cs (K:=(List.range t.Z.length).filter (fun j=>decide (jc (aZ t cs) s V g0 j))) (fun e=>by have:=(B i).2 ⟨A,g⟩;rw[e]at this;exact absurd this fM) (fun j L=>by rw[d.1];exact((B j).1 L).1);have F:=Sf I d x B q b;have G:=Lk (fun x hx=>(d.2 x hx).1) (by have:=F.pos;omega) b;obtain⟨r,N⟩:=H (Ed d b) (by have:=F.pos;omega);exact⟨_,.step h o v n B q b N⟩
   exact⟨_,.qa h (by have:=uY (yP I d) h;have e:cW (aZ t cs).vars (aZ t cs).aG V=cW t.vars t.aG V:=rfl;omega)⟩
  exact⟨_,.done h (by have:=Ao t.vars t.aG V;omega)⟩
end
def Ee {t:aa}(I:aC t):eu t (am t):=⟨tB t,zy I⟩
open Classical in
noncomputable def pR (t:aa)(s:J):Int:=if h:ab t.vars s/\∃ r,q7 t s (am t) r then AK (Classical.choose h.2) else 0
def uV {t:aa}{s:J}(b:ab t.vars s)(h:q7 t s (am t) r):pR t s=AK r:=by
 have hx:ab t.vars s/\∃ r,q7 t s (am t) r:=⟨b,r,h⟩
 unfold pR;rw[dif_pos hx,Ù (wh hx.2) h]
def AL {t:aa}{s:J}(b:¬ab t.vars s):pR t s=0:=by
 unfold pR;rw[dif_neg fun h=>b h.1]
def Sg {t:aa}(I:aC t){s:J}(b:ab t.vars s):∃ r,q7 t s (am t) r:=Ý I b _ (Ee I) (cz _)
def KF {t:aa}(I:aC t){s:J}{l:List (List Nat × Int)}(h:q7 t s (am t) (some l)):0<=ml l/\ml l<=4294967296:=by
 obtain⟨h1,b⟩:=Ü I h (Ee I) l rfl;have d:=Sd (cs:=am t) (B:=1048576) fun x hx=>(zy I x hx).2;have e:(am t).length*1048576<=4096*1048576:=uF _ (by rw[tB];exact I.Z);omega
def Fc {t:aa}(I:aC t):Bs t (pR t):=by
 have key:∀ s,0<=pR t s/\pR t s<=bD:=fun s=>by
  have e:bD=1125899906842624:=rfl;by_cases b:ab t.vars s
  ·obtain⟨r,d⟩:=Sg I b
   rw[uV b d]
   cases r with
   | none=>exact⟨by show (0:Int)<=bD;omega,du _⟩
   | some l=>have:=KF I d;exact⟨this.1,by show ml l<=bD;omega⟩
  rw[AL b];exact⟨du _,U⟩
 exact⟨I,fun y=>(key y).1,fun y=>(key y).2⟩
def Þ {t:aa}(I:aC t){s:J}(h:lu t s p k):pR t s<bD/\pR t s<=k:=by
 have e:bD=1125899906842624:=rfl;by_cases b:ab t.vars s
 ·obtain⟨r,d⟩:=Sg I b
  have g:lu (aZ t (am t)) s p k:=by rw[Õ I];exact h
  obtain⟨l,j,h1⟩:=Û I b d (Ee I) g;subst j;rw[uV b d];have:=KF I d;exact⟨by show ml l<bD;omega,h1⟩
 rw[AL b];exact⟨U,h.nn I⟩
def qh (V:J)(o f:Int):Int:=if o<0\/dg V o<dg V f\/(dg V f=dg V o/\f<o) then f else o
def iu (V l:J):Int:=l.foldl (qh V) (-1)
def Sh (V l:J)(f:Int):iu V (l++[f])=qh V (iu V l) f:=by simp[iu]
def yT {V:J}:∀ {l:J},(∀ f∈l,0<=f)->(l=[]/\iu V l = -1)\/(0<=iu V l/\jx V l (iu V l)):=by
 intro l;refine nu (P:=fun l=>(∀ f∈l,0<=f)->(l=[]/\iu V l = -1)\/(0<=iu V l/\jx V l (iu V l))) (fun _=>.inl ⟨rfl,rfl⟩) ?_ l;intro l f j h;right;have b:=h f sm;rw[Sh];rcases j fun g I=>h g (by simp[I]) with ⟨e,h1⟩|⟨n,h1,d⟩
 ·rw[h1,e]
  have:qh V (-1) f=f:=aP (.inl dc);rw[this]
  exact⟨b,sm,fun g I=>by
   have:g=f:=by simpa using I
   rw[this];exact .inr ⟨rfl,du _⟩⟩
 unfold qh;split
 ·rename_i o
  refine⟨b,sm,fun g I=>?_⟩;rcases gK.1 I with I|I
  ·rcases d g I with q|q<;>omega
  rw[dp.1 I];exact .inr ⟨rfl,du _⟩
 rename_i o;refine⟨n,by simp[h1],fun g I=>?_⟩;rcases gK.1 I with I|I
 ·exact d g I
 rw[dp.1 I];omega
def jO (V l:J):Int:=if iu V l<0 then 0 else dg V (iu V l)
def Aq {V:J}(g:∀ f∈l,0<=f/\0<=dg V f){b:Int}(j:0<=b):jO V l<=b↔∀ f∈l,dg V f<=b:=by
 unfold jO;rcases yT (V:=V) (l:=l) fun f d=>(g f d).1 with ⟨e,h1⟩|⟨n,h1⟩
 ·rw[h1,aP dc,e]
  exact⟨fun _ f d=>absurd d fM,fun _=>j⟩
 rw[aH U];exact⟨fun h f d=>rO (h1.ge d) h,fun h=>h _ h1.1⟩
def Ar {V:J}(b:∀ f∈l,0<=f/\0<=dg V f):0<=jO V l:=by
 unfold jO;rcases yT (V:=V) (l:=l) fun f d=>(b f d).1 with ⟨_,h1⟩|⟨e,h1⟩
 ·rw[h1,aP dc];exact du _
 rw[aH U];exact(b _ h1.1).2
def Ll {V:J}(d:∀ f∈l,0<=f/\0<=dg V f):jO V l<bD↔qi V l:=by
 have h:=Aq (V:=V) d (b:=bD-1) dc;unfold qi;constructor
 ·intro h1 g I;have:=h.1 U g I;omega
 intro h1;have:=h.2 fun g I=>by have:=h1 g I;omega
 omega
def HL {V:J}{b:Int}:∀ {l:J}{a:Int},l.foldl (fun m n=>max m (dg V n)) a<=b↔a<=b/\∀ f∈l,dg V f<=b
 | [],a=>sm
 | x::l,a=>by
  rw[sr,HL (l:=l)];constructor
  ·rintro⟨h1,g⟩
   have h:=GB.1 h1
   exact⟨h.1,fun f d=>by
    rcases dZ.1 d with e|d
    ·rw[e];exact h.2
    exact g f d⟩
  rintro⟨h1,g⟩;exact⟨GB.2 ⟨h1,g x gA⟩,fun f d=>g f (iR _ d)⟩
def Si {V:J}(b:∀ f∈l,0<=f/\0<=dg V f):jO V l=l.foldl (fun m n=>max m (dg V n)) 0:=by
 refine Ke ?_ ?_
 ·have d:(0:Int)<=l.foldl (fun m n=>max m (dg V n)) 0:=(HL.1 (du _)).1
  exact(Aq b d).2 (HL.1 (du _)).2
 exact HL.2 ⟨Ar b,(Aq b (Ar b)).1 (du _)⟩
def mB (l m:J):Prop:=∀ x,x∈l↔x∈m
def ß {V:J}(h:mB l m){f:Int}:jx V l f↔jx V m f:=by
 unfold jx;rw[h f];exact⟨fun⟨a,b⟩=>⟨a,fun g I=>b g ((h g).2 I)⟩,fun⟨a,b⟩=>⟨a,fun g I=>b g ((h g).1 I)⟩⟩
def Sj (h:mB l m):l=[]↔m=[]:=by
 constructor
 ·intro e;subst e
  cases m with
  | nil=>rfl
  | cons x m=>exact absurd ((h x).2 gA) fM
 intro e;subst e
 cases l with
 | nil=>rfl
 | cons x l=>exact absurd ((h x).1 gA) fM
structure yb (t:aa) (z D:J):Prop where
 len:D.length=aS t
 dC:∀ g:Int,0<=g->g<aS t->0<=dg D g/\dg D g<=bD
 qD:∀ g:Int,0<=g->g<aS t->dg D g<bD->jK (bS t) (mb t.vars z) g (dg D g)
 st:∀ g,mb t.vars z g->dg D g<=0
section
variable {t:aa}{z D:J}
def yb.vP (h:yb t z D)(I:aC t)(hi:i<(bS t).length){L:J}(d:mB L (un (bS t) i).aw):∀ f∈L,(0<=f/\0<=dg D f)/\f<aS t:=fun f e=>by
 have b:=(uM I).aw i hi f ((d f).1 e);exact⟨⟨b.1,(h.dC f b.1 b.2).1⟩,b.2⟩
def yb.o0 (h:yb t z D)(I:aC t)(hi:i<(bS t).length){L:J}(B:mB L (un (bS t) i).aw)(h1:jO D L<bD)(h2:jO D L+(un (bS t) i).aO<dg D (un (bS t) i).aK) :
  yb t z (D.set (un (bS t) i).aK.toNat (jO D L+(un (bS t) i).aO))/\fT (D.set (un (bS t) i).aK.toNat (jO D L+(un (bS t) i).aO))<fT D:=by
 have C:=uM I;have hm:=C.aK i hi;have R:=C.aO i hi;have F:=fun f N=>(h.vP I hi B f N).1;have q:=Ar F;have u:=(Ll F).1 h1;have eH:=(Aq F q).1 (du _);have hlen:=h.len;have S:=h.dC _ hm.1 hm.2
 have G:jK (bS t) (mb t.vars z) (un (bS t) i).aK ((un (bS t) i).aO+jO D L):=.iI (v:=fun n=>dg D n) hi q (fun n d=>by
  have x:=(B n).2 d;have b:=C.aw i hi n d
  exact h.qD n b.1 b.2 (u n x)) fun n d=>eH n ((B n).2 d)
 rw[DD]at G;have b:∀ g:Int,0<=g->dg (D.set (un (bS t) i).aK.toNat (jO D L+(un (bS t) i).aO)) g=if g=(un (bS t) i).aK then jO D L+(un (bS t) i).aO else dg D g:=fun g j=>B6 j hm.1 U
 refine⟨⟨by rw[gS];exact hlen,fun g j o => ?_,fun g j o x=>?_,fun g H=>?_⟩,Lm U (by simp only[dg]at *;omega)⟩
 ·rw[b g j]
  split
  ·omega
  exact h.dC g j o
 ·rw[b g j]at x ⊢
  split
  ·rename_i e;rw[e];exact G
  rename_i e;rw[aH e]at x;exact h.qD g j o x
 by_cases j:0<=g
 ·rw[b g j]
  have A:=h.st g H;split
  ·rename_i e;rw[<-e]at h2;omega
  exact A
 have A:=h.st g H;have P:dg (D.set (un (bS t) i).aK.toNat (jO D L+(un (bS t) i).aO)) g=dg (D.set (un (bS t) i).aK.toNat (jO D L+(un (bS t) i).aO)) 0:=by unfold dg;rw[show g.toNat=(0:Int).toNat by omega]
 have Q:dg D g=dg D 0:=by unfold dg;rw[show g.toNat=(0:Int).toNat by omega]
 rw[Q]at A;rw[P,b 0 (du _)];split
 ·rename_i e;rw[<-e]at h2;omega
 exact A
def yb.ow (h:yb t z D)(I:aC t)(d:∀ i:Nat,i<(bS t).length->jO D (un (bS t) i).aw<bD->dg D (un (bS t) i).aK<=jO D (un (bS t) i).aw+(un (bS t) i).aO):gV t z D:=by
 have e:=uM I;refine Sk h.len h.dC e h.st (fun i b=>?_) h.qD;have j:=fun f g=>(h.vP I b (L:=(un (bS t) i).aw) (fun _=>xV) f g).1;rw[<-Si j];have hm:=e.aK i b;have n:=h.dC _ hm.1 hm.2;have o:=e.aO i b;by_cases g:jO D (un (bS t) i).aw<bD
 ·have:=d i b g;omega
 omega
end
def Sm {V:J}(h:mB l m)(b:∀ f∈l,0<=f/\0<=dg V f):jO V l=jO V m:=by
 have hm:∀ f∈m,0<=f/\0<=dg V f:=fun f d=>b f ((h f).2 d);refine Ke ?_ ?_
 ·exact(Aq b (Ar hm)).2 fun f d=>(Aq hm (Ar hm)).1 (du _) f ((h f).1 d)
 exact(Aq hm (Ar b)).2 fun f d=>(Aq b (Ar b)).1 (du _) f ((h f).2 d)
def Ln {t:aa}{cs:J}(hi:i<(bS t).length):(bS (aZ t cs)).length=(bS t).length/\(un (bS (aZ t cs)) i).op=(un (bS t) i).op/\(un (bS (aZ t cs)) i).aK=(un (bS t) i).aK/\(un (bS (aZ t cs)) i).aw=(un (bS t) i).aw/\(un (bS (aZ t cs)) i).aO=cs.getD (un (bS t) i).op.toNat O.dflt:=by
 have key:∀ k,k<=t.Z.length->gL (aZ t cs) k=(gL t k).map fun u=>{ u with aO:=cs.getD u.op.toNat O.dflt }:=by
  intro k
  induction k with
  | zero=>intro _;simp[gL]
  | succ k b =>
   intro hk;rw[yL,yL,b U,pX,Al U];congr 1;unfold lP;rw[zz];refine xK fun j _=>?_;simp[yM,aZ]
 have e:bS (aZ t cs)=(bS t).map fun u=>{ u with aO:=cs.getD u.op.toNat O.dflt }:=by
  have:=key t.Z.length (cz _);unfold bS;rw[yO];exact this
 have h1:un (bS (aZ t cs)) i={ un (bS t) i with aO:=cs.getD (un (bS t) i).op.toNat O.dflt }:=by
  rw[e];unfold un;rw[gY,al (by rw[iW];exact hi),mL,al hi]
 exact⟨by rw[e,iW],by rw[h1],by rw[h1],by rw[h1],by rw[h1]⟩
structure uk where
 ba:Int
 dst:Int
 op:Int
variable {a:uk}
def a8:Ty uk:=⟨3,fun a=>[E a.ba,E a.dst,E a.op],fun _=>rfl,⟨0,0,0⟩⟩
instance Fw:ku a8:=⟨fun x v hv=>by simp only[a8,dZ,fM,pL]at hv;rcases hv with rfl|rfl|rfl<;>rfl⟩
def sK (V:J)(u:Un):List uk:=if jO V u.aw<bD then [⟨iu V u.aw,u.aK,u.op⟩] else []
def nQ (t:aa)(V:J)(k:Nat):List uk:=(List.range k).flatMap fun (i:Nat)=>sK V (un (bS t) i)
def à (t:aa)(V:J):nQ t V 0=[]:=by simp[nQ]
def Sp (t:aa)(V:J)(k:Nat):nQ t V (k+1)=nQ t V k++sK V (un (bS t) k):=by simp[nQ,lz]
def Sq {t:aa}{V:J}{k:Nat}:a∈nQ t V k↔∃ i:Nat,i<k/\jO V (un (bS t) i).aw<bD/\a=⟨iu V (un (bS t) i).aw,(un (bS t) i).aK,(un (bS t) i).op⟩:=by
 unfold nQ;rw[tm];constructor
 ·rintro⟨i,d,b⟩
  unfold sK at b;split at b
  ·exact⟨i,mem_range.1 d,‹_›,dp.1 b⟩
  exact absurd b fM
 rintro⟨i,d,h,rfl⟩;exact⟨i,mem_range.2 d,by unfold sK;rw[aP h];exact dp.2 rfl⟩
def Lo (t:aa)(V:J):∀ k,(nQ t V k).length<=k
 | 0=>by simp[nQ]
 | k+1=>by
  rw[Sp,length_append];have:=Lo t V k;have h:(sK V (un (bS t) k)).length<=1:=by unfold sK;split<;>simp
  omega
def á {V:J}(h:mB l m)(b:∀ f∈l,0<=f):iu V l=iu V m:=by
 have hm:∀ f∈m,0<=f:=fun f g=>b f ((h f).2 g);rcases yT (V:=V) b with ⟨e,h1⟩|⟨j,h1⟩
 ·have:=(Sj h).1 e
  subst this;rw[h1];rfl
 rcases yT (V:=V) hm with ⟨e,d⟩|⟨_,d⟩
 ·have:=(Sj h).2 e
  subst this;exact absurd h1.1 fM
 exact CQ ((ß h).1 h1) d
def aW (t:aa)(V:J):List uk:=nQ t V (bS t).length
section
variable {t:aa}{z V cs:J}{g0:Int}
def HM (I:aC t)(v:∀ g:Int,0<=g->g<aS t->0<=dg V g)(h:a∈aW t V):∃ u∈bS (aZ t cs),qi V u.aw/\u.aK=a.dst/\u.op=a.op/\u.aO=cs.getD a.op.toNat O.dflt/\((u.aw=[]/\a.ba = -1)\/(0<=a.ba/\jx V u.aw a.ba))/\(0<=a.dst/\a.dst<aS t)/\a.ba<aS t/\∃ op:Nat,a.op=(op:Int)/\op<t.Z.length:=by
 obtain⟨i,d,b,rfl⟩:=Sq.1 h;obtain⟨x,A,B,q,C⟩:=Ln (cs:=cs) d;have n:=uM I;have o:∀ f∈(un (bS t) i).aw,0<=f/\0<=dg V f:=fun f b=>by
  have:=n.aw i d f b;exact⟨this.1,v f this.1 this.2⟩
 have hm:=n.aK i d;obtain⟨op,j,F,_,G⟩:=CS.1 (yU d);have H:un (bS t) (i:Int)=yM t.vars op (t.Z.getD op bf) j:=G;refine⟨un (bS (aZ t cs)) i,yU (by rw[x];exact d),by rw[q];exact(Ll o).1 b,B,A,C,?_,hm,?_,op,by rw[H];rfl,F⟩
 ·rw[q]
  rcases yT (V:=V) (l:=(un (bS t) i).aw) fun f b=>(o f b).1 with ⟨e,h1⟩|h1
  ·exact .inl ⟨e,h1⟩
  exact .inr h1
 rcases yT (V:=V) (l:=(un (bS t) i).aw) fun f b=>(o f b).1 with ⟨e,h1⟩|h1
 ·show iu V (un (bS t) i).aw<_;omega
 exact(n.aw i d _ h1.2.1).2
def HN (I:aC t)(n:∀ g:Int,0<=g->g<aS t->0<=dg V g){u:Un}(h:u∈bS (aZ t cs))(d:qi V u.aw):∃ a∈aW t V,a.dst=u.aK/\a.op=u.op/\u.aO=cs.getD a.op.toNat O.dflt/\((u.aw=[]/\a.ba = -1)\/(0<=a.ba/\jx V u.aw a.ba)):=by
 obtain⟨i,B,rfl⟩:=uZ h;have b:i<(bS t).length:=by
  have h1:∀ k,k<=t.Z.length->(gL (aZ t cs) k).length=(gL t k).length:=by
   intro k
   induction k with
   | zero=>intro _;simp[gL]
   | succ k j =>
    intro hk;rw[yL,yL,length_append,length_append,j U,Al U,Bq,Bq]
  have j:(bS (aZ t cs)).length=(bS t).length:=by
   unfold bS;rw[yO];exact h1 _ (cz _)
  omega
 obtain⟨C,o,q,v,x⟩:=Ln (cs:=cs) b;have A:=uM I;have j:∀ f∈(un (bS t) i).aw,0<=f/\0<=dg V f:=fun f d=>by
  have:=A.aw i b f d;exact⟨this.1,n f this.1 this.2⟩
 rw[v]at d ⊢;refine⟨_,Sq.2 ⟨i,b,(Ll j).2 d,rfl⟩,q.symm,o.symm,x,?_⟩;rcases yT (V:=V) (l:=(un (bS t) i).aw) fun f d=>(j f d).1 with ⟨e,h1⟩|h1
 ·exact .inl ⟨e,h1⟩
 exact .inr h1
def â (I:aC t)(d:∀ g:Int,0<=g->g<aS t->0<=dg V g)(h:a∈aW t V)(B:0<=a.ba)(j:cs.getD a.op.toNat O.dflt=0)(n:ZT (aZ t cs) V g0 a.dst):ZT (aZ t cs) V g0 a.ba:=by
 obtain⟨u,o,q,v,C,x,A,_⟩:=HM (cs:=cs) I d h;rcases A with ⟨_,e⟩|⟨_,b⟩
 ·omega
 exact .step o q b (by rw[x];exact j) (by rw[v];exact n)
def Fe (I:aC t)(n:∀ g:Int,0<=g->g<aS t->0<=dg V g){B:Int->Prop}(o:B g0)(d:∀ a∈aW t V,0<=a.ba->cs.getD a.op.toNat O.dflt=0->B a.dst->B a.ba){f:Int}(h:ZT (aZ t cs) V g0 f):B f:=by
 induction h with
 | aG=>exact o
 | @step u f hu q b v _ x =>
  obtain⟨a,A,a2,a3,a4,a5⟩:=HN I n hu q;rcases a5 with ⟨e,_⟩|⟨C,j⟩
  ·rw[e]at b;exact absurd b.1 fM
  have:=d a A C (by rw[<-a4];exact v) (by rw[a2];exact x);rw[CQ j b]at this;exact this
def Sr (I:aC t)(o:∀ g:Int,0<=g->g<aS t->0<=dg V g)(h:a∈aW t V)(b:a.ba<0\/ZS (aZ t cs) z V g0 a.ba)(d:¬ZT (aZ t cs) V g0 a.dst):ZS (aZ t cs) z V g0 a.dst:=by
 obtain⟨u,n,q,v,A,B,x,_⟩:=HM (cs:=cs) I o h;rw[<-v]at d ⊢;rcases x with ⟨e,_⟩|⟨C,j⟩
 ·exact .start n e d
 rcases b with b|b
 ·omega
 exact .step n q j b d
def Ff (I:aC t)(v:∀ g:Int,0<=g->g<aS t->0<=dg V g){S:Int->Prop}(A:∀ f,mb t.vars z f->S f)(j:∀ a∈aW t V,(a.ba<0\/S a.ba)->¬ZT (aZ t cs) V g0 a.dst->S a.dst){f:Int}(h:ZS (aZ t cs) z V g0 f):S f:=by
 induction h with
 | st h=>exact A _ h
 | @start u hu x o =>
  obtain⟨a,q,a2,a3,a4,a5⟩:=HN I v hu (fun n h=>by rw[x]at h;exact absurd h fM);rw[<-a2]at o ⊢;rcases a5 with ⟨_,e⟩|⟨_,b⟩
  ·exact j a q (.inl U) o
  rw[x]at b;exact absurd b.1 fM
 | @step u f hu B d _ o C =>
  obtain⟨a,q,a2,a3,a4,a5⟩:=HN I v hu B;rw[<-a2]at o ⊢;rcases a5 with ⟨e,_⟩|⟨_,b⟩
  ·rw[e]at d;exact absurd d.1 fM
  exact j a q (.inr (by rw[CQ b d];exact C)) o
def Ss (I:aC t)(q:∀ g:Int,0<=g->g<aS t->0<=dg V g):jc (aZ t cs) z V g0 i↔∃ a∈aW t V,a.op=(i:Int)/\(a.ba<0\/ZS (aZ t cs) z V g0 a.ba)/\ZT (aZ t cs) V g0 a.dst:=by
 constructor
 ·rintro⟨u,hu,j,v,h,n⟩
  obtain⟨a,x,a2,a3,a4,a5⟩:=HN I q hu v;refine⟨a,x,by rw[a3];exact j,?_,by rw[a2];exact n⟩;rcases a5 with ⟨e,h1⟩|⟨A,b⟩
  ·exact .inl U
  rcases h with e|⟨f,d,o⟩
  ·rw[e]at b;exact absurd b.1 fM
  exact .inr (by rw[CQ b d];exact o)
 rintro⟨a,b,j,h,n⟩;obtain⟨u,o,v,x,B,F,C,_⟩:=HM (cs:=cs) I q b;refine⟨u,o,by rw[B];exact j,v,?_,by rw[x];exact n⟩;rcases C with ⟨e,_⟩|⟨A,d⟩
 ·exact .inl e
 rcases h with h|h
 ·omega
 exact .inr ⟨_,d,h⟩
end
def kZ (B:List Bool)(f:Int):Bool:=B.getD f.toNat ah.dflt
def mn (B:List Bool):Nat:=B.countP (fun b => !b)
def yV {B:List Bool}{f g:Int}(b:0<=f)(d:f<B.length)(I:0<=g):kZ (B.set f.toNat true) g=if g=f then true else kZ B g:=by
 unfold kZ;rw[St U];by_cases e:g=f
 ·rw[aP e,aP (by rw[e])]
 rw[aH e,aH U]
def HO:∀ {B:List Bool}{i:Nat},i<B.length->B.getD i ah.dflt=false->mn (B.set i true)<mn B
 | [],i,h,_=>by simp at h
 | b::B,0,_,h=>by
  have e:b=false:=h;subst e
  simp[mn]
 | b::B,i+1,h,d=>by
  have g:=HO (B:=B) (i:=i) (by simpa using h) d;unfold mn at g ⊢;rw[mM,DM,DM];omega
def Su (n:Nat)(f:Int):kZ (replicate n false) f=false:=by
 unfold kZ;by_cases h:f.toNat<n
 ·simp[List.getD,h]
 simp[List.getD,h];rfl
section
variable {vars:J}
end
section
variable {t:aa}{z V cs D:J}
def lE (o:ko)(j:Nat):List bo:=o.pre++(o.aJ.getD j bE).bK
def vj (o:ko)(j:Nat):bo:=⟨(o.aJ.getD j bE).var,(o.aJ.getD j bE).val⟩
def Sv (I:aC t){k j:Nat}(hk:k<t.Z.length)(g:j<(t.Z.getD k bf).aJ.length):∀ f∈lE (t.Z.getD k bf) j,bH t.vars f:=fun f b=>by
 have e:=I.op k hk;rcases gK.1 b with b|b
 ·obtain⟨i,d,rfl⟩:=fF b
  have:=(e.pre i d).1
  rwa[al d]at this
 obtain⟨i,d,rfl⟩:=fF b;have:=((e.fc j g).1 i d).1
 rwa[al d]at this
def Lp (I:aC t){k j:Nat}(hk:k<t.Z.length)(b:j<(t.Z.getD k bf).aJ.length):bH t.vars (vj (t.Z.getD k bf) j):=by
 have:=tz ((I.op k hk).fc j b);exact this
end
inductive r8 (t:aa) (s:J) (w:bo):bo->Prop
 | st {v:Nat}:v<t.vars.length->r8 t s w ⟨(v:Int),s.getD v O.dflt⟩
 | op {k j:Nat}:k<t.Z.length->j<(t.Z.getD k bf).aJ.length->vj (t.Z.getD k bf) j≠w->(∀ f∈lE (t.Z.getD k bf) j,r8 t s w f)->r8 t s w (vj (t.Z.getD k bf) j)
def FF (t:aa)(s:J)(f:bo):Prop:=∃ g∈t.aG,¬r8 t s f g
def Lq (t:aa)(s:J)(f:bo)(k:Nat):Prop:=k<t.Z.length/\∃ j,j<(t.Z.getD k bf).aJ.length/\vj (t.Z.getD k bf) j=f/\∀ n∈lE (t.Z.getD k bf) j,r8 t s f n
section
variable {t:aa}{s:J}{f:bo}
def Sw {x:bo}(h:ie y x):x=⟨(x.var.toNat:Int),y.getD x.var.toNat O.dflt⟩:=by
 obtain⟨b,h1,d⟩:=h;cases x;simp only at b h1 d;rw[d,fZ b]
def ã (I:aC t)(L:lu t y p k):ab t.vars y->(∀ v:Nat,v<t.vars.length->r8 t s f ⟨(v:Int),y.getD v O.dflt⟩)->(∃ op:Nat,(op:Int)∈p/\Lq t s f op)\/∀ g∈t.aG,r8 t s f g:=by
 induction L with
 | @aG y N =>
  intro h o;refine .inr fun g b=>?_;have h1:=As N b;rw[Sw h1];have:=h1.2.1;have A:=h.1;have:=h1.1
  exact o _ U
 | @step y op p k u P _ Q =>
  intro h o;by_cases G:Lq t s f op
  ·exact .inl ⟨op,gA,G⟩
  have B:=I.op op u;have A:=h.1;have b:∀ {l:List bo},bZ y l->∀ x∈l,r8 t s f x:=fun R x hx=>by
   have h1:=As R hx;rw[Sw h1];have:=h1.2.1;have:=h1.1;exact o _ U
  rcases Q (r6 I h u) (fun v hv=>by
   have C:v<y.length:=U;rcases Lr (s:=y) (l:=(t.Z.getD op bf).aJ) (fun e he=>by have:=tz (B.mem e he);rw[h.1];exact⟨this.1,this.2.1⟩) C with e|⟨j,H,S,T,e3⟩
   ·have F:(cd t y op).getD v O.dflt=y.getD v O.dflt:=e
    rw[F];exact o v hv
   have F:vj (t.Z.getD op bf) j=⟨(v:Int),(cd t y op).getD v O.dflt⟩:=by
    unfold vj;rw[S,T];rfl
   have d:∀ n∈lE (t.Z.getD op bf) j,r8 t s f n:=fun n d=>by
    rcases gK.1 d with d|d
    ·exact b P n d
    exact b e3 n d
   rw[<-F]
   refine .op u H (fun ef=>G ⟨u,j,H,ef,d⟩) d) with ⟨q,h1,h2⟩|h1
  ·exact .inl ⟨q,iR _ h1,h2⟩
  exact .inr h1
def FF.y6 (d:FF t s f)(I:aC t)(e:ab t.vars s)(h:lu t s p k):∃ op:Nat,(op:Int)∈p/\Lq t s f op:=by
 obtain⟨g,h1,j⟩:=d;rcases ã (f:=f) I h e (fun v hv=>.st hv) with b|b
 ·exact b
 exact absurd (b g h1) j
def Uz (I:aC t)(b:ab t.vars s)(d:∃ g∈t.aG,¬r8 t s ⟨-1,-1⟩ g)(h:lu t s p k):False:=by
 obtain⟨op,_,n⟩:=FF.y6 (f:=⟨-1,-1⟩) d I b h;obtain⟨o,j,q,e,_⟩:=n;have:=(Lp I o q).1;rw[e]at this;exact absurd this dc
end
structure kH (t:aa) (C:List J) (v:List Rat):Prop where
 len:v.length=C.length
 nn:∀ x∈v,0<=x
 ä:∀ op:Nat,op<t.Z.length->dw (fun i=>if (op:Int)∈C.getD i [] then v.getD i 0 else 0) C.length<=((qu t op:Int):Rat)
def Lt {f g:Nat->Rat}:∀ {n:Nat},(∀ i,i<n->f i<=g i)->dw f n<=dw g n
 | 0,_=>zx
 | n+1,h=>by
  have h1:=Lt (n:=n) fun i b=>h i U;have d:=h n U;show dw f n+f n<=dw g n+g n
  grind
def Nt {f:Nat->Rat}:∀ {n:Nat},(∀ i,i<n->0<=f i)->0<=dw f n
 | 0,_=>zx
 | n+1,h=>by
  have h1:=Nt (n:=n) fun i b=>h i U;have d:=h n U;show 0<=dw f n+f n
  grind
open Classical in
def kH.Lu {t:aa}{C:List J}{v:List Rat}(h:kH t C v)(o:lu t y p k):dw (fun i=>if ∃ op:Nat,(op:Int)∈p/\(op:Int)∈C.getD i [] then v.getD i 0 else 0) C.length<=((k:Int):Rat):=by
 have hv:∀ i,i<C.length->0<=v.getD i 0:=fun i n=>by
  have d:i<v.length:=by rw[h.len];exact n
  rw[al d];exact h.nn _ (wq d)
 induction o with
 | aG _ =>
  rw[AT (g:=fun _=>0) fun i _=>aH (by rintro⟨op,h1,_⟩;exact absurd h1 fM),Sx]
  exact zx
 | @step y op p k u x _ A =>
  have h1:dw (fun i=>if ∃ q:Nat,(q:Int)∈((op:Int)::p)/\(q:Int)∈C.getD i [] then v.getD i 0 else 0) C.length<=dw (fun i=>(if (op:Int)∈C.getD i [] then v.getD i 0 else 0)+(if ∃ q:Nat,(q:Int)∈p/\(q:Int)∈C.getD i [] then v.getD i 0 else 0)) C.length:=Lt fun i n=>by
   have B:=hv i n;by_cases a:(op:Int)∈C.getD i []
   ·rw[aP a,aP ⟨op,gA,a⟩]
    split<;>grind
   rw[aH a];by_cases b:∃ q:Nat,(q:Int)∈p/\(q:Int)∈C.getD i []
   ·rw[aP b]
    obtain⟨q,d,j⟩:=b;rw[aP ⟨q,iR _ d,j⟩];grind
   rw[aH b,aH]
   ·grind
   rintro⟨q,d,j⟩;rcases dZ.1 d with e|d
   ·exact a (by rw[<-e];exact j)
   exact b ⟨q,d,j⟩
  rw[Sy]at h1;have d:=h.ä op u;rw[Rat.intCast_add]
  grind
open Classical in
def kH.low {t:aa}{C:List J}{v:List Rat}(h:kH t C v)(b:lu t y p k)(d:∀ i,i<C.length->∃ op:Nat,(op:Int)∈p/\(op:Int)∈C.getD i []):dw (fun i=>v.getD i 0) C.length<=((k:Int):Rat):=by
 have h1:=h.Lu b
 rwa[AT (g:=fun i=>v.getD i 0) fun i e=>aP (d i e)]at h1
end Go.Proofs.YtmapkjoefdgjfaaGreatDoor
