/- Several texts. -/
import Derived.Test.YtmapkjoefdgjfaaGreatDoorMW12H
set_option linter.unusedSimpArgs false
set_option linter.unusedVariables false
set_option linter.defProp false
set_option maxRecDepth 8000
set_option maxHeartbeats 16000000
open List Nat
namespace Go.Proofs.YtmapkjoefdgjfaaGreatDoor
open Go.Sl
variable {l p y m:J}{i:Nat}{k c:Int}{K:List Nat}{r:Option (List (List Nat × Int))}
def bk (t:aa)(cs:J):aa:={ t with M:=(List.range t.M.length).map fun i=>{ t.M.getD i bz with aT:=cs.getD i W.dflt } }
def fe (t:aa)(cs:J):Prop:=cs.length=t.M.length/\∀ x∈cs,0<=x/\x<=1048576
section
variable {t:aa}{cs:J}
def Az:(bk t cs).M.length=t.M.length:=by simp[bk]
def BN (hi:i<t.M.length):(bk t cs).M.getD i bz={ t.M.getD i bz with aT:=cs.getD i W.dflt }:=by
 simp[bk,List.getD,hi]
def U1 {s:J}{op:Nat}(b:op<t.M.length):jZ (bk t cs) s op↔jZ t s op:=by
 unfold jZ;rw[BN b]
def U2 {s:J}{op:Nat}(b:op<t.M.length):cD (bk t cs) s op=cD t s op:=by
 unfold cD;rw[BN b]
def JA {op:Nat}(b:op<t.M.length):oF (bk t cs) op=cs.getD op W.dflt:=by
 unfold oF;rw[BN b]
def AA (I:aJ t)(h:fe t cs):aJ (bk t cs):=by
 refine⟨I.vars,by rw[Az];exact I.M,I.pC,I.dt,I.aF,fun i b=>?_⟩;rw[Az]at b;rw[BN b];have e:=I.op i b;have d:=h.2 _ (cS W.dflt (show i<cs.length by rw[h.1];exact b));exact { e with l9:=d.1,pG:=d.2 }
def RH (I:aJ t):bk t (ao t)=t:=by
 have h1:(List.range t.M.length).map (fun i=>{ t.M.getD i bz with aT:=(ao t).getD i W.dflt })=t.M:=by
  refine jB sm fun i h1 d=>?_;rw[getElem_map,tI,tD d,aq d]
 unfold bk
 rw[h1]
def kC (cs:J)(K:List Nat)(c:Int):J:=(List.range cs.length).map fun i=>if i∈K then cs.getD i W.dflt-c else cs.getD i W.dflt
def BO (cs:J)(K:List Nat)(c:Int):(kC cs K c).length=cs.length:=by simp[kC]
def AB (hi:i<cs.length):(kC cs K c).getD i W.dflt=if i∈K then cs.getD i W.dflt-c else cs.getD i W.dflt:=by simp[kC,List.getD,hi]
def rT (cs:J)(K:List Nat)(c:Int):Prop:=(∃ i∈K,i<cs.length/\cs.getD i W.dflt=c)/\∀ i∈K,c<=cs.getD i W.dflt
def D5 (h:fe t cs)(hm:rT cs K c):fe t (kC cs K c):=by
 obtain⟨i0,h1,j,n⟩:=hm.1;have e:=h.2 _ (cS W.dflt j);rw[n]at e;refine⟨by rw[BO];exact h.1,fun x hx=>?_⟩;obtain⟨i,g,rfl⟩:=ga hx;have b:i<cs.length:=by rw[BO]at g;exact g
 rw[<-aq (d:=W.dflt) g,AB b];have o:=h.2 _ (cS W.dflt b);split
 ·rename_i hk;have:=hm.2 i hk;omega
 exact o
def m_ (n:cs.length=t.M.length)(o:0<=c)(h:mg (bk t cs) y p k):∃ d,mg (bk t (kC cs K c)) y p d/\d<=k/\((∃ op:Nat,(op:Int)∈p/\op∈K)->d+c<=k):=by
 induction h with
 | aF e=>exact⟨0,.aF e,iq _,fun⟨op,h1,_⟩=>absurd h1 jd⟩
 | @step y op p k b g _ j =>
  rw[Az]at b;obtain⟨d,h1,u,v⟩:=j;rw[U2 b]at h1;refine⟨_,.step (by rw[Az];exact b) ((U1 b).2 ((U1 b).1 g)) (by rw[U2 b];exact h1),?_,fun⟨q,x,A⟩=>?_⟩
  ·rw[JA b,JA b,AB U]
   omega
  rw[JA b,JA b,AB U];by_cases hk:op∈K
  ·grind
  rw[aM hk]
  grind
end
inductive sO (t:aa) (s:J):J->Option (List (List Nat × Int))->Prop
 | qR {cs V:J}:iL (bk t cs) s V->dy t.vars t.aF V=bZ->sO t s cs none
 | done {cs V:J}:iL (bk t cs) s V->dy t.vars t.aF V=0->sO t s cs (some [])
 | step {cs V:J}{g0:Int}{K:List Nat}{c:Int}{r:Option (List (List Nat × Int))}:iL (bk t cs) s V->0<dy t.vars t.aF V->dy t.vars t.aF V<bZ->kD V (eh t) g0->(∀ i,i∈K↔i<t.M.length/\j5 (bk t cs) s V g0 i)->K.Pairwise (·<·)->rT cs K c->sO t s (kC cs K c) r->sO t s cs (r.map ((K,c)::·))
def ng (l:List (List Nat × Int)):Int:=l.foldr (fun x n=>x.2+n) 0
def yN:Option (List (List Nat × Int))->Int|none=>bZ|some l=>ng l
def U3:∀ {l m:List Nat},l.Pairwise (·<·)->m.Pairwise (·<·)->(∀ i,i∈l↔i∈m)->l=m
 | [],[],_,_,_=>rfl
 | [],y::m,_,_,h=>absurd ((h y).2 ku) jd
 | x::l,[],_,_,h=>absurd ((h x).1 ku) jd
 | x::l,y::m,b,hm,h=>by
  obtain⟨j,d⟩:=Ef.1 b;obtain⟨m1,m2⟩:=Ef.1 hm;have e:x=y:=by
   have h1:=(h x).1 ku;have g:=(h y).2 ku;rcases gT.1 h1 with e|h1
   ·exact e
   grind
  subst e
  rw[U3 d m2 fun i=>⟨fun g=>by
   grind ,fun g=>by
   grind ⟩]
def n_ {cs:J}{b:Int}(h:rT cs K c)(d:rT cs K b):c=b:=by
 obtain⟨⟨i,h1,_,e⟩,g⟩:=h;obtain⟨⟨j,n,_,o⟩,q⟩:=d
 grind
section
variable {t:aa}{s:J}
def o_ {cs:J}(h:sO t s cs r):∀ {j},sO t s cs j->r=j:=by
 have e:(0:Int)≠bZ:=dc
 induction h with
 | qR h1 g =>
  intro j n
  cases n with
  | qR _ _=>rfl
  | done b d=>rw[BP h1 b,d]at g;omega
  | step b d o _ _ _ _ _=>rw[BP h1 b]at g;omega
 | done h1 g =>
  intro j n
  cases n with
  | qR b d=>rw[BP h1 b,d]at g;omega
  | done _ _=>rfl
  | step b d o _ _ _ _ _=>rw[BP h1 b]at g;omega
 | step h1 g q u v x A _ P =>
  intro j n
  cases n with
  | qR b d=>rw[BP h1 b]at q;omega
  | done b d=>rw[BP h1 b]at g;omega
  | step b d o B C F G Q =>
   have H:=BP h1 b;subst H;have L:=EB u B;subst L;have N:=U3 x F fun i=>(v i).trans (C i).symm;subst N;have R:=n_ A G
   grind
def p_ {t:aa}{V:J}{g0:Int}(I:kD V (eh t) g0)(e:0<dy t.vars t.aF V):dy t.vars t.aF V=dg V g0:=by
 obtain⟨f,b,he⟩:=iG.1 I.1;have h1:dg V g0<=dy t.vars t.aF V:=by rw[<-he];exact(AC (BQ _ _ _)).1 (iq _) f b
 refine Mt ?_ h1;by_cases d:0<=dg V g0
 ·exact(AC d).2 fun f b=>I.ge (iG.2 ⟨f,b,rfl⟩)
 have:dy t.vars t.aF V<=0:=(AC (iq _)).2 fun f b=>by have:=I.ge (iG.2 ⟨f,b,rfl⟩);omega
 omega
def Fv {cs V:J}{g0:Int}(I:aJ t)(d:aj t.vars s)(g:fe t cs)(hm:iL (bk t cs) s V)(h:0<dy t.vars t.aF V)(j:dy t.vars t.aF V<bZ)(b:kD V (eh t) g0):iE (bk t cs) s V g0:=by
 have e:=p_ b h;exact⟨AA I g,d,hm,b,U,U⟩
def U4 {cs V:J}{g0:Int}(I:aJ t)(o:fe t cs)(x:iE (bk t cs) s V g0)(hi:i<t.M.length)(h:j5 (bk t cs) s V g0 i):1<=cs.getD i W.dflt:=by
 obtain⟨u,hu,b,d⟩:=h;have h1:=x.A7 hu d;obtain⟨g,j,q,v,rfl⟩:=EC.1 hu;have e:g=i:=by
  have n:(g:Int)=(i:Int):=b;omega
 subst e;have n:0<((bk t cs).M.getD g bz).aT:=h1;rw[BN hi]at n;exact n
def Nx {cs V:J}{g0:Int}(x:iE (bk t cs) s V g0):∃ i,i<t.M.length/\j5 (bk t cs) s V g0 i:=by
 obtain⟨u,hu,b⟩:=x.some;obtain⟨e,j,d,g,rfl⟩:=EC.1 hu;rw[Az]at d;exact⟨e,d,_,hu,rfl,b⟩
def q_ (I:aJ t)(n:aj t.vars s){cs:J}(h:sO t s cs r):fe t cs->∀ {p:J}{k:Int},mg (bk t cs) s p k->∃ l,r=some l/\ng l<=k:=by
 induction h with
 | @qR cs V h1 o =>
  intro g p k j;have b:=AA I g;have u:=(yf (t:=bk t cs) n h1)
  have v:dC (bk t cs) s<bZ:=by
   have key:∀ {y q:J}{d:Int},mg (bk t cs) y q d->dC (bk t cs) y<bZ:=by
    intro y q d hq
    induction hq with
    | aF F=>rw[KD b F];decide
    | @step y op q d B G _ A =>
     by_cases C:aj (bk t cs).vars y
     ·have g1:=HI b C B G
      have g2:=PX b _ A;have g3:=x6 b B
      grind
     rw[Cm C];decide
   exact key j
  rw[u,show dy (bk t cs).vars (bk t cs).aF V=bZ from o]at v
  omega
 | done _ _ =>
  intro g p k j
  exact⟨[],rfl,j.nn (AA I g)⟩
 | @step cs V g0 K c r h1 o u v C Q F _ A =>
  intro g p k j;have x:=Fv I n g h1 o u v;obtain⟨op,G,B,H⟩:=x.AL j n fun f L=>.st L;rw[Az]at B;obtain⟨⟨i,i1,i2,i3⟩,i4⟩:=F;have b:0<=c:=by have:=g.2 _ (cS W.dflt i2);omega
  obtain⟨R,N,S,P⟩:=m_ (K:=K) g.1 b j;have T:=P ⟨op,G,(C op).2 ⟨B,H⟩⟩;obtain⟨l,e,hl⟩:=A (D5 g ⟨⟨i,i1,i2,i3⟩,i4⟩) N;refine⟨(K,c)::l,by rw[e];rfl,?_⟩;show c+ng l<=k;omega
end
def U5:∀ {l:List Nat}{x:Nat},x∈l->x<=l.sum
 | [],_,h=>absurd h jd
 | y::l,x,h=>by
  rw[sum_cons];rcases gT.1 h with e|h
  ·omega
  have:=U5 h;omega
def U6 (f g:Nat->Nat):∀ {l:List Nat},(∀ i∈l,f i<=g i)->(l.map f).sum<=(l.map g).sum
 | [],_=>cP _
 | x::l,h=>by
  have h1:=h x ku;have d:=U6 f g (l:=l) fun i b=>h i (nt _ b)
  grind
def U7 (f g:Nat->Nat)(c:Nat):∀ {l:List Nat},(∀ i∈l,f i<=g i)->(∃ i∈l,f i+c<=g i)->(l.map f).sum+c<=(l.map g).sum
 | [],_,h=>by simp_all
 | x::l,h,d=>by
  have h1:=h x ku;obtain⟨i,b,j⟩:=d;simp only[pV,sum_cons];rcases gT.1 b with e|b
  ·subst e
   have:=U6 f g (l:=l) fun i b=>h i (nt _ b);omega
  have:=U7 f g c (l:=l) (fun i b=>h i (nt _ b)) ⟨i,b,j⟩;omega
def Ny (cs:J):gO cs=((List.range cs.length).map fun i=>(cs.getD i W.dflt).toNat).sum:=by
 unfold gO;congr 1;refine jB sm fun i h1 b=>?_
 grind
def Nz {cs:J}(e:∀ x∈cs,0<=x)(g:0<=c)(hm:rT cs K c):gO (kC cs K c)+c.toNat<=gO cs:=by
 obtain⟨⟨i,h1,b,h⟩,n⟩:=hm;rw[Ny,Ny,BO];refine U7 _ _ _ (fun j d=>?_) ⟨i,mem_range.2 b,?_⟩
 ·rw[AB (mem_range.1 d)]
  omega
 rw[AB b,ba h1];omega
def U8 {cs:J}{B:Nat}(h:∀ x∈cs,x<=(B:Int)):gO cs<=cs.length*B:=by
 induction cs with
 | nil=>exact bC _
 | cons x l b =>
  have h1:=h x ku;have d:=b fun y e=>h y (nt _ e);unfold gO at d ⊢;simp only[pV,sum_cons,length_cons,z6];omega
section
variable {t:aa}{s:J}
def RJ {cs:J}(I:aJ t)(h:sO t s cs r):fe t cs->∀ l,r=some l->0<=ng l/\ng l<=(gO cs:Int):=by
 induction h with
 | qR _ _=>grind
 | done _ _=>intro _ l e;cases e;exact⟨iq _,D0 _⟩
 | @step cs V g0 K c r _ _ _ _ _ _ g _ o =>
  intro j l e;have b:=D5 j g;have hm:=g;obtain⟨⟨i,i1,i2,i3⟩,i4⟩:=g;have n:0<=c:=by have:=j.2 _ (cS W.dflt i2);omega
  cases r with
  | none=>cases e
  | some d =>
   have q:l=(K,c)::d:=(zD e).symm;subst q;have h1:=o b d rfl;have u:=Nz (fun x hx=>(j.2 x hx).1) n hm;show 0<=c+ng d/\c+ng d<=_;omega
def U9 (cs:J):∀ {K:List Nat},K≠[]->(∀ i∈K,i<cs.length)->∃ c,rT cs K c
 | [],h,_=>absurd rfl h
 | [x],_,h=>⟨cs.getD x W.dflt,⟨x,ku,h x ku,rfl⟩,fun i b=>by grind⟩
 | x::y::l,_,h=>by
  obtain⟨c,⟨i,h1,d,e⟩,n⟩:=U9 cs (K:=y::l) sm fun i b=>h i (nt _ b);by_cases hx:c<=cs.getD x W.dflt
  ·refine⟨c,⟨i,nt _ h1,d,e⟩,fun j g=>?_⟩
   grind
  refine⟨cs.getD x W.dflt,⟨x,ku,h x ku,rfl⟩,fun j g=>?_⟩
  grind
structure Hc (t:aa) (s cs V:J) (K:List Nat) (c:Int):Prop where
 Gg:K.Pairwise (·<·)
 min:rT cs K c
 pos:1<=c
 le:c<=1048576
 ne:K≠[]
 lt:∀ i∈K,i<t.M.length
def Va {cs V:J}{g0:Int}(I:aJ t)(d:fe t cs)(x:iE (bk t cs) s V g0)(g:∀ i,i∈K↔i<t.M.length/\j5 (bk t cs) s V g0 i)(h:K.Pairwise (·<·))(hm:rT cs K c):Hc t s cs V K c:=by
 have b:=hm;obtain⟨⟨i,i1,i2,i3⟩,i4⟩:=hm;obtain⟨n,o⟩:=(g i).1 i1;have h1:=U4 I d x n o;have u:=d.2 _ (cS W.dflt i2);exact⟨h,b,U,U,fun e=>by grind,fun j q=>((g j).1 q).1⟩
open Classical in
def r_ (I:aJ t)(B:aj t.vars s):∀ (m:Nat) {cs:J},fe t cs->gO cs<=m->∃ r,sO t s cs r:=by
 intro m
 induction m with
 | zero =>
  intro cs d hm;obtain⟨V,g⟩:=BR (AA I d) s;by_cases n:0<dy t.vars t.aF V
  ·by_cases v:dy t.vars t.aF V<bZ
   ·have u:eh t≠[]:=fun e=>by
     have:t.aF=[]:=by simpa [eh] using e
     rw[this]at n;exact absurd n (by simp[dy])
    obtain⟨g0,h⟩:=ED (V:=V) u;have x:=Fv I B d g n v h;obtain⟨i,A,o⟩:=Nx x;have h1:=U4 I d x A o;have b:(cs.getD i W.dflt).toNat<=gO cs:=by
     rw[Ny];exact U5 (iG.2 ⟨i,mem_range.2 (by rw[d.1];exact A),rfl⟩)
    omega
   exact⟨_,.qR g (by have:=wH (AA I d) g;have e:dy (bk t cs).vars (bk t cs).aF V=dy t.vars t.aF V:=rfl;omega)⟩
  exact⟨_,.done g (by have:=BQ t.vars t.aF V;omega)⟩
 | succ m H =>
  intro cs d hm;obtain⟨V,g⟩:=BR (AA I d) s;by_cases n:0<dy t.vars t.aF V
  ·by_cases v:dy t.vars t.aF V<bZ
   ·have u:eh t≠[]:=fun e=>by
     have:t.aF=[]:=by simpa [eh] using e
     rw[this]at n;exact absurd n (by simp[dy])
    obtain⟨g0,h⟩:=ED (V:=V) u;have x:=Fv I B d g n v h;obtain⟨i,A,o⟩:=Nx x;have C:∀ j,j∈(List.range t.M.length).filter (fun j=>decide (j5 (bk t cs) s V g0 j))↔j<t.M.length/\j5 (bk t cs) s V g0 j:=fun j=>by
     grind
    have q:((List.range t.M.length).filter (fun j=>decide (j5 (bk t cs) s V g0 j))).Pairwise (·<·):=Pairwise.filter _ Bj;obtain⟨c,b⟩:=U9 cs (K:=(List.range t.M.length).filter (fun j=>decide (j5 (bk t cs) s V g0 j))) (fun e=>by grind) (fun j N=>by rw[d.1];grind);have F:=Va I d x C q b;have G:=Nz (fun x hx=>(d.2 x hx).1) (by have:=F.pos;omega) b;obtain⟨r,L⟩:=H (D5 d b) (by have:=F.pos;omega);exact⟨_,.step g n v h C q b L⟩
   exact⟨_,.qR g (by have:=wH (AA I d) g;have e:dy (bk t cs).vars (bk t cs).aF V=dy t.vars t.aF V:=rfl;omega)⟩
  exact⟨_,.done g (by have:=BQ t.vars t.aF V;omega)⟩
end
def D4 {t:aa}(I:aJ t):fe t (ao t):=⟨tC t,zp I⟩
open Classical in
noncomputable def pX (t:aa)(s:J):Int:=if h:aj t.vars s/\∃ r,sO t s (ao t) r then yN (Classical.choose h.2) else 0
def ur {t:aa}{s:J}(b:aj t.vars s)(h:sO t s (ao t) r):pX t s=yN r:=by
 have hx:aj t.vars s/\∃ r,sO t s (ao t) r:=⟨b,r,h⟩
 unfold pX;rw[dif_pos hx,o_ (FN hx.2) h]
def Cb {t:aa}{s:J}(b:¬aj t.vars s):pX t s=0:=by
 unfold pX
 grind
def LR {t:aa}(I:aJ t){s:J}(b:aj t.vars s):∃ r,sO t s (ao t) r:=r_ I b _ (D4 I) (cP _)
def MU {t:aa}(I:aJ t){s:J}{l:List (List Nat × Int)}(h:sO t s (ao t) (some l)):0<=ng l/\ng l<=4294967296:=by
 obtain⟨h1,b⟩:=RJ I h (D4 I) l rfl;have d:=U8 (cs:=ao t) (B:=1048576) fun x hx=>(zp I x hx).2;have e:(ao t).length*1048576<=4096*1048576:=wm _ (by rw[tC];exact I.M);omega
def Hd {t:aa}(I:aJ t):CQ t (pX t):=by
 have key:∀ s,0<=pX t s/\pX t s<=bZ:=fun s=>by
  have e:bZ=1125899906842624:=rfl;by_cases b:aj t.vars s
  ·obtain⟨r,d⟩:=LR I b
   rw[ur b d]
   cases r with
   | none=>exact⟨by show (0:Int)<=bZ;omega,iq _⟩
   | some l=>have:=MU I d;exact⟨this.1,by show ng l<=bZ;omega⟩
  rw[Cb b];omega
 exact⟨I,fun y=>(key y).1,fun y=>(key y).2⟩
def RG {t:aa}(I:aJ t){s:J}(h:mg t s p k):pX t s<bZ/\pX t s<=k:=by
 have e:bZ=1125899906842624:=rfl;by_cases b:aj t.vars s
 ·obtain⟨r,d⟩:=LR I b
  have g:mg (bk t (ao t)) s p k:=by rw[RH I];exact h
  obtain⟨l,j,h1⟩:=q_ I b d (D4 I) g;subst j;rw[ur b d];have:=MU I d;exact⟨by show ng l<bZ;omega,h1⟩
 rw[Cb b];exact⟨U,h.nn I⟩
def rU (V:J)(o f:Int):Int:=if o<0\/dg V o<dg V f\/(dg V f=dg V o/\f<o) then f else o
def jM (V l:J):Int:=l.foldl (rU V) (-1)
def Vb (V l:J)(f:Int):jM V (l++[f])=rU V (jM V l) f:=by simp[jM]
def AD {V:J}:∀ {l:J},(∀ f∈l,0<=f)->(l=[]/\jM V l = -1)\/(0<=jM V l/\kD V l (jM V l)):=by
 intro l;refine pE (P:=fun l=>(∀ f∈l,0<=f)->(l=[]/\jM V l = -1)\/(0<=jM V l/\kD V l (jM V l))) (fun _=>.inl ⟨rfl,rfl⟩) ?_ l;intro l f d h;right;have b:=h f sm;rw[Vb];rcases d fun g I=>h g (by simp[I]) with ⟨e,h1⟩|⟨j,h1,o⟩
 ·rw[h1,e]
  have:rU V (-1) f=f:=ba (.inl dc);rw[this]
  exact⟨b,sm,fun g I=>by
   grind ⟩
 unfold rU;split
 ·rename_i n
  refine⟨b,sm,fun g I=>?_⟩
  grind
 rename_i n;refine⟨j,by simp[h1],fun g I=>?_⟩
 grind
def lq (V l:J):Int:=if jM V l<0 then 0 else dg V (jM V l)
def BS {V:J}(g:∀ f∈l,0<=f/\0<=dg V f){b:Int}(j:0<=b):lq V l<=b↔∀ f∈l,dg V f<=b:=by
 unfold lq;rcases AD (V:=V) (l:=l) fun f d=>(g f d).1 with ⟨e,h1⟩|⟨n,h1⟩
 ·grind
 rw[aM U];exact⟨fun h f d=>uJ (h1.ge d) h,fun h=>h _ h1.1⟩
def BT {V:J}(b:∀ f∈l,0<=f/\0<=dg V f):0<=lq V l:=by
 unfold lq;rcases AD (V:=V) (l:=l) fun f d=>(b f d).1 with ⟨_,h1⟩|⟨e,h1⟩
 ·omega
 rw[aM U];exact(b _ h1.1).2
def NA {V:J}(d:∀ f∈l,0<=f/\0<=dg V f):lq V l<bZ↔rV V l:=by
 have h:=BS (V:=V) d (b:=bZ-1) dc;unfold rV
 grind
def JB {V:J}{b:Int}:∀ {l:J}{a:Int},l.foldl (fun m n=>max m (dg V n)) a<=b↔a<=b/\∀ f∈l,dg V f<=b
 | [],a=>sm
 | x::l,a=>by
  rw[xe,JB (l:=l)]
  grind
def Vc {V:J}(b:∀ f∈l,0<=f/\0<=dg V f):lq V l=l.foldl (fun m n=>max m (dg V n)) 0:=by
 refine Mt ?_ ?_
 ·have d:(0:Int)<=l.foldl (fun m n=>max m (dg V n)) 0:=(JB.1 (iq _)).1
  exact(BS b d).2 (JB.1 (iq _)).2
 exact JB.2 ⟨BT b,(BS b (BT b)).1 (iq _)⟩
def nW (l m:J):Prop:=∀ x,x∈l↔x∈m
def s_ {V:J}(h:nW l m){f:Int}:kD V l f↔kD V m f:=by
 unfold kD;rw[h f];exact⟨fun⟨a,b⟩=>⟨a,fun g I=>b g ((h g).2 I)⟩,fun⟨a,b⟩=>⟨a,fun g I=>b g ((h g).1 I)⟩⟩
def Vd (h:nW l m):l=[]↔m=[]:=by
 constructor
 ·intro e;subst e
  cases m with
  | nil=>rfl
  | cons x m=>exact absurd ((h x).2 ku) jd
 intro e;subst e
 cases l with
 | nil=>rfl
 | cons x l=>exact absurd ((h x).1 ku) jd
structure zQ (t:aa) (z D:J):Prop where
 len:D.length=aZ t
 et:∀ g:Int,0<=g->g<aZ t->0<=dg D g/\dg D g<=bZ
 sd:∀ g:Int,0<=g->g<aZ t->dg D g<bZ->lC (cz t) (oH t.vars z) g (dg D g)
 st:∀ g,oH t.vars z g->dg D g<=0
section
variable {t:aa}{z D:J}
def zQ.xC (h:zQ t z D)(I:aJ t)(hi:i<(cz t).length){L:J}(d:nW L (un (cz t) i).aG):∀ f∈L,(0<=f/\0<=dg D f)/\f<aZ t:=fun f e=>by
 have b:=(wk I).aG i hi f ((d f).1 e);exact⟨⟨b.1,(h.et f b.1 b.2).1⟩,b.2⟩
def zQ.rf (h:zQ t z D)(I:aJ t)(hi:i<(cz t).length){L:J}(B:nW L (un (cz t) i).aG)(h1:lq D L<bZ)(h2:lq D L+(un (cz t) i).aT<dg D (un (cz t) i).aU) :
  zQ t z (D.set (un (cz t) i).aU.toNat (lq D L+(un (cz t) i).aT))/\gO (D.set (un (cz t) i).aU.toNat (lq D L+(un (cz t) i).aT))<gO D:=by
 have C:=wk I;have hm:=C.aU i hi;have R:=C.aT i hi;have F:=fun f H=>(h.xC I hi B f H).1;have q:=BT F;have u:=(NA F).1 h1;have fh:=(BS F q).1 (iq _);have hlen:=h.len;have S:=h.et _ hm.1 hm.2
 have N:lC (cz t) (oH t.vars z) (un (cz t) i).aU ((un (cz t) i).aT+lq D L):=.kg (v:=fun n=>dg D n) hi q (fun n d=>by
  have x:=(B n).2 d;have b:=C.aG i hi n d
  exact h.sd n b.1 b.2 (u n x)) fun n d=>fh n ((B n).2 d)
 rw[FC]at N;have b:∀ g:Int,0<=g->dg (D.set (un (cz t) i).aU.toNat (lq D L+(un (cz t) i).aT)) g=if g=(un (cz t) i).aU then lq D L+(un (cz t) i).aT else dg D g:=fun g j=>DB j hm.1 U
 refine⟨⟨by grind,fun g j o => ?_,fun g j o x=>?_,fun g G=>?_⟩,NB U (by simp only[dg]at *;omega)⟩
 ·rw[b g j]
  split
  ·omega
  exact h.et g j o
 ·rw[b g j]at x ⊢
  split
  ·grind
  rename_i e;rw[aM e]at x;exact h.sd g j o x
 by_cases j:0<=g
 ·rw[b g j]
  have A:=h.st g G;split
  ·grind
  exact A
 have A:=h.st g G;have P:dg (D.set (un (cz t) i).aU.toNat (lq D L+(un (cz t) i).aT)) g=dg (D.set (un (cz t) i).aU.toNat (lq D L+(un (cz t) i).aT)) 0:=by unfold dg;rw[show g.toNat=(0:Int).toNat by omega]
 have Q:dg D g=dg D 0:=by unfold dg;rw[show g.toNat=(0:Int).toNat by omega]
 rw[Q]at A;rw[P,b 0 (iq _)];split
 ·rename_i e;rw[<-e]at h2;omega
 exact A
def zQ.qE (h:zQ t z D)(I:aJ t)(e:∀ i:Nat,i<(cz t).length->lq D (un (cz t) i).aG<bZ->dg D (un (cz t) i).aU<=lq D (un (cz t) i).aG+(un (cz t) i).aT):iL t z D:=by
 have b:=wk I;refine RF h.len h.et b h.st (fun i d=>?_) h.sd;have g:=fun f j=>(h.xC I d (L:=(un (cz t) i).aG) (fun _=>zI) f j).1;rw[<-Vc g];have hm:=b.aU i d;have n:=h.et _ hm.1 hm.2;have o:=b.aT i d
 grind
end
def Ve {V:J}(h:nW l m)(b:∀ f∈l,0<=f/\0<=dg V f):lq V l=lq V m:=by
 have hm:∀ f∈m,0<=f/\0<=dg V f:=fun f d=>b f ((h f).2 d);refine Mt ?_ ?_
 ·exact(BS b (BT hm)).2 fun f d=>(BS hm (BT hm)).1 (iq _) f ((h f).1 d)
 exact(BS hm (BT b)).2 fun f d=>(BS b (BT b)).1 (iq _) f ((h f).2 d)
def NC {t:aa}{cs:J}(hi:i<(cz t).length):(cz (bk t cs)).length=(cz t).length/\(un (cz (bk t cs)) i).op=(un (cz t) i).op/\(un (cz (bk t cs)) i).aU=(un (cz t) i).aU/\(un (cz (bk t cs)) i).aG=(un (cz t) i).aG/\(un (cz (bk t cs)) i).aT=cs.getD (un (cz t) i).op.toNat W.dflt:=by
 have key:∀ k,k<=t.M.length->iK (bk t cs) k=(iK t k).map fun u=>{ u with aT:=cs.getD u.op.toNat W.dflt }:=by
  intro k
  induction k with
  | zero=>intro _;simp[iK]
  | succ k b =>
   intro hk;rw[Ax,Ax,b U,qG,BN U];congr 1;unfold mZ;rw[Bb];refine Bc fun j _=>?_;simp[Ay,bk]
 have e:cz (bk t cs)=(cz t).map fun u=>{ u with aT:=cs.getD u.op.toNat W.dflt }:=by
  have:=key t.M.length (cP _);unfold cz;rw[Az];exact this
 have h1:un (cz (bk t cs)) i={ un (cz t) i with aT:=cs.getD (un (cz t) i).op.toNat W.dflt }:=by
  rw[e];unfold un;rw[jU,aq (by grind),getElem_map,aq hi]
 grind
structure vQ where
 br:Int
 dst:Int
 op:Int
variable {a:vQ}
def bu:Ty vQ:=⟨3,fun a=>[E a.br,E a.dst,E a.op],fun _=>rfl,⟨0,0,0⟩⟩
instance Ht:lU bu:=⟨fun x v hv=>by simp only[bu,gT,jd,pQ]at hv;rcases hv with rfl|rfl|rfl<;>rfl⟩
def uh (V:J)(u:Un):List vQ:=if lq V u.aG<bZ then [⟨jM V u.aG,u.aU,u.op⟩] else []
def qt (t:aa)(V:J)(k:Nat):List vQ:=(List.range k).flatMap fun (i:Nat)=>uh V (un (cz t) i)
def t_ (t:aa)(V:J):qt t V 0=[]:=by simp[qt]
def Vf (t:aa)(V:J)(k:Nat):qt t V (k+1)=qt t V k++uh V (un (cz t) k):=by simp[qt,lN]
def Vg {t:aa}{V:J}{k:Nat}:a∈qt t V k↔∃ i:Nat,i<k/\lq V (un (cz t) i).aG<bZ/\a=⟨jM V (un (cz t) i).aG,(un (cz t) i).aU,(un (cz t) i).op⟩:=by
 unfold qt;rw[tN];constructor
 ·rintro⟨i,b,d⟩
  unfold uh at d
  grind
 rintro⟨i,b,h,rfl⟩;exact⟨i,mem_range.2 b,by unfold uh;grind⟩
def ND (t:aa)(V:J):∀ k,(qt t V k).length<=k
 | 0=>by simp[qt]
 | k+1=>by
  rw[Vf,length_append];have:=ND t V k;have h:(uh V (un (cz t) k)).length<=1:=by unfold uh;split<;>simp
  omega
def u_ {V:J}(h:nW l m)(b:∀ f∈l,0<=f):jM V l=jM V m:=by
 have hm:∀ f∈m,0<=f:=fun f g=>b f ((h f).2 g);rcases AD (V:=V) b with ⟨e,h1⟩|⟨j,h1⟩
 ·have:=(Vd h).1 e
  grind
 rcases AD (V:=V) hm with ⟨e,d⟩|⟨_,d⟩
 ·have:=(Vd h).2 e
  grind
 exact EB ((s_ h).1 h1) d
def bf (t:aa)(V:J):List vQ:=qt t V (cz t).length
section
variable {t:aa}{z V cs:J}{g0:Int}
def JC (I:aJ t)(G:∀ g:Int,0<=g->g<aZ t->0<=dg V g)(h:a∈bf t V):∃ u∈cz (bk t cs),rV V u.aG/\u.aU=a.dst/\u.op=a.op/\u.aT=cs.getD a.op.toNat W.dflt/\((u.aG=[]/\a.br = -1)\/(0<=a.br/\kD V u.aG a.br))/\(0<=a.dst/\a.dst<aZ t)/\a.br<aZ t/\∃ op:Nat,a.op=(op:Int)/\op<t.M.length:=by
 obtain⟨i,d,b,rfl⟩:=Vg.1 h;obtain⟨H,v,x,q,A⟩:=NC (cs:=cs) d;have n:=wk I;have o:∀ f∈(un (cz t) i).aG,0<=f/\0<=dg V f:=fun f b=>by
  have:=n.aG i d f b
  grind
 have hm:=n.aU i d;obtain⟨op,j,B,_,C⟩:=EC.1 (AE d);have F:un (cz t) (i:Int)=Ay t.vars op (t.M.getD op bz) j:=C;refine⟨un (cz (bk t cs)) i,AE U,by rw[q];exact(NA o).1 b,x,v,A,?_,hm,?_,op,by rw[F];rfl,B⟩
 ·rw[q]
  rcases AD (V:=V) (l:=(un (cz t) i).aG) fun f b=>(o f b).1 with ⟨e,h1⟩|h1
  ·grind
  grind
 rcases AD (V:=V) (l:=(un (cz t) i).aG) fun f b=>(o f b).1 with ⟨e,h1⟩|h1
 ·grind
 exact(n.aG i d _ h1.2.1).2
def JD (I:aJ t)(A:∀ g:Int,0<=g->g<aZ t->0<=dg V g){u:Un}(h:u∈cz (bk t cs))(d:rV V u.aG):∃ a∈bf t V,a.dst=u.aU/\a.op=u.op/\u.aT=cs.getD a.op.toNat W.dflt/\((u.aG=[]/\a.br = -1)\/(0<=a.br/\kD V u.aG a.br)):=by
 obtain⟨i,B,rfl⟩:=wI h;have b:i<(cz t).length:=by
  have h1:∀ k,k<=t.M.length->(iK (bk t cs) k).length=(iK t k).length:=by
   intro k
   induction k with
   | zero=>intro _;simp[iK]
   | succ k j =>
    intro hk;rw[Ax,Ax,length_append,length_append,j U,BN U,CO,CO]
  have j:(cz (bk t cs)).length=(cz t).length:=by
   unfold cz;rw[Az];exact h1 _ (cP _)
  omega
 obtain⟨C,n,o,q,v⟩:=NC (cs:=cs) b;have x:=wk I;have j:∀ f∈(un (cz t) i).aG,0<=f/\0<=dg V f:=fun f d=>by
  have:=x.aG i b f d
  grind
 rw[q]at d ⊢;refine⟨_,Vg.2 ⟨i,b,(NA j).2 d,rfl⟩,o.symm,n.symm,v,?_⟩;rcases AD (V:=V) (l:=(un (cz t) i).aG) fun f d=>(j f d).1 with ⟨e,h1⟩|h1
 ·grind
 grind
def v_ (I:aJ t)(d:∀ g:Int,0<=g->g<aZ t->0<=dg V g)(h:a∈bf t V)(q:0<=a.br)(v:cs.getD a.op.toNat W.dflt=0)(x:ZT (bk t cs) V g0 a.dst):ZT (bk t cs) V g0 a.br:=by
 obtain⟨u,j,n,A,B,C,o,_⟩:=JC (cs:=cs) I d h;rcases o with ⟨_,e⟩|⟨_,b⟩
 ·omega
 exact .step j n b U (by grind)
def He (I:aJ t)(n:∀ g:Int,0<=g->g<aZ t->0<=dg V g){B:Int->Prop}(o:B g0)(d:∀ a∈bf t V,0<=a.br->cs.getD a.op.toNat W.dflt=0->B a.dst->B a.br){f:Int}(h:ZT (bk t cs) V g0 f):B f:=by
 induction h with
 | aF=>exact o
 | @step u f hu q b A _ C =>
  obtain⟨a,v,a2,a3,a4,a5⟩:=JD I n hu q;rcases a5 with ⟨e,_⟩|⟨x,j⟩
  ·rw[e]at b;exact absurd b.1 jd
  have:=d a v x U (by grind);rw[EB j b]at this;exact this
def Vh (I:aJ t)(o:∀ g:Int,0<=g->g<aZ t->0<=dg V g)(h:a∈bf t V)(b:a.br<0\/ZS (bk t cs) z V g0 a.br)(d:¬ZT (bk t cs) V g0 a.dst):ZS (bk t cs) z V g0 a.dst:=by
 obtain⟨u,n,q,v,A,B,x,_⟩:=JC (cs:=cs) I o h;rw[<-v]at d ⊢;rcases x with ⟨e,_⟩|⟨C,j⟩
 ·exact .start n e d
 rcases b with b|b
 ·omega
 exact .step n q j b d
def Hf (I:aJ t)(q:∀ g:Int,0<=g->g<aZ t->0<=dg V g){S:Int->Prop}(x:∀ f,oH t.vars z f->S f)(j:∀ a∈bf t V,(a.br<0\/S a.br)->¬ZT (bk t cs) V g0 a.dst->S a.dst){f:Int}(h:ZS (bk t cs) z V g0 f):S f:=by
 induction h with
 | st h=>exact x _ h
 | @start u hu A d =>
  obtain⟨a,v,a2,a3,a4,a5⟩:=JD I q hu (fun n h=>by grind);rw[<-a2]at d ⊢;rcases a5 with ⟨_,e⟩|⟨_,b⟩
  ·grind
  rw[A]at b;exact absurd b.1 jd
 | @step u f hu B o _ d C =>
  obtain⟨a,v,a2,a3,a4,a5⟩:=JD I q hu B;rw[<-a2]at d ⊢;rcases a5 with ⟨e,_⟩|⟨_,b⟩
  ·grind
  exact j a v (.inr (by rw[EB b o];exact C)) d
def Vi (I:aJ t)(j:∀ g:Int,0<=g->g<aZ t->0<=dg V g):j5 (bk t cs) z V g0 i↔∃ a∈bf t V,a.op=(i:Int)/\(a.br<0\/ZS (bk t cs) z V g0 a.br)/\ZT (bk t cs) V g0 a.dst:=by
 constructor
 ·rintro⟨u,hu,o,q,n,v⟩
  obtain⟨a,x,a2,a3,a4,a5⟩:=JD I j hu q;refine⟨a,x,U,?_,by grind⟩;rcases a5 with ⟨e,h1⟩|⟨A,b⟩
  ·omega
  rcases n with e|⟨f,d,h⟩
  ·rw[e]at b;exact absurd b.1 jd
  exact .inr (by rw[EB b d];exact h)
 rintro⟨a,b,o,n,v⟩;obtain⟨u,d,h,q,x,A,B,_⟩:=JC (cs:=cs) I j b;refine⟨u,d,U,h,?_,by grind⟩
 grind
end
def mz (B:List Bool)(f:Int):Bool:=B.getD f.toNat ah.dflt
def nM (B:List Bool):Nat:=B.countP (fun b => !b)
def AF {B:List Bool}{f g:Int}(b:0<=f)(d:f<B.length)(I:0<=g):mz (B.set f.toNat true) g=if g=f then true else mz B g:=by
 unfold mz
 grind
def JE:∀ {B:List Bool}{i:Nat},i<B.length->B.getD i ah.dflt=false->nM (B.set i true)<nM B
 | [],i,h,_=>by simp at h
 | b::B,0,_,h=>by
  have e:b=false:=h;subst e
  simp[nM]
 | b::B,i+1,h,d=>by
  have g:=JE (B:=B) (i:=i) (by simpa using h) d;unfold nM at g ⊢
  grind
def Vj (n:Nat)(f:Int):mz (replicate n false) f=false:=by
 unfold mz;by_cases h:f.toNat<n
 ·grind
 simp[List.getD,h];rfl
section
variable {vars:J}
end
section
variable {t:aa}{z V cs D:J}
def mP (o:mM)(j:Nat):List bE:=o.pre++(o.aQ.getD j bQ).cb
def wU (o:mM)(j:Nat):bE:=⟨(o.aQ.getD j bQ).var,(o.aQ.getD j bQ).val⟩
def Vk (I:aJ t){k j:Nat}(hk:k<t.M.length)(g:j<(t.M.getD k bz).aQ.length):∀ f∈mP (t.M.getD k bz) j,bV t.vars f:=fun f b=>by
 have e:=I.op k hk;rcases kK.1 b with b|b
 ·obtain⟨i,d,rfl⟩:=ga b
  have:=(e.pre i d).1
  rwa[aq d]at this
 obtain⟨i,d,rfl⟩:=ga b;have:=((e.fS j g).1 i d).1
 rwa[aq d]at this
def NE (I:aJ t){k j:Nat}(hk:k<t.M.length)(b:j<(t.M.getD k bz).aQ.length):bV t.vars (wU (t.M.getD k bz) j):=by
 have:=uW ((I.op k hk).fS j b);exact this
end
inductive tP (t:aa) (s:J) (w:bE):bE->Prop
 | st {v:Nat}:v<t.vars.length->tP t s w ⟨(v:Int),s.getD v W.dflt⟩
 | op {k j:Nat}:k<t.M.length->j<(t.M.getD k bz).aQ.length->wU (t.M.getD k bz) j≠w->(∀ f∈mP (t.M.getD k bz) j,tP t s w f)->tP t s w (wU (t.M.getD k bz) j)
def HF (t:aa)(s:J)(f:bE):Prop:=∃ g∈t.aF,¬tP t s f g
def NF (t:aa)(s:J)(f:bE)(k:Nat):Prop:=k<t.M.length/\∃ j,j<(t.M.getD k bz).aQ.length/\wU (t.M.getD k bz) j=f/\∀ n∈mP (t.M.getD k bz) j,tP t s f n
section
variable {t:aa}{s:J}{f:bE}
def Vl {x:bE}(h:jh y x):x=⟨(x.var.toNat:Int),y.getD x.var.toNat W.dflt⟩:=by
 obtain⟨b,h1,d⟩:=h;cases x
 grind
def w_ (I:aJ t)(G:mg t y p k):aj t.vars y->(∀ v:Nat,v<t.vars.length->tP t s f ⟨(v:Int),y.getD v W.dflt⟩)->(∃ op:Nat,(op:Int)∈p/\NF t s f op)\/∀ g∈t.aF,tP t s f g:=by
 induction G with
 | @aF y H =>
  intro h L;refine .inr fun g b=>?_;have h1:=BU H b;rw[Vl h1];have:=h1.2.1;have u:=h.1;have:=h1.1
  grind
 | @step y op p k o N _ P =>
  intro h L;by_cases Q:NF t s f op
  ·grind
  have A:=I.op op o;have u:=h.1;have b:∀ {l:List bE},cE y l->∀ x∈l,tP t s f x:=fun R x hx=>by
   have h1:=BU R hx;rw[Vl h1];have:=h1.2.1;have:=h1.1
   grind
  rcases P (sb I h o) (fun v hv=>by
   have B:v<y.length:=U;rcases NG (s:=y) (l:=(t.M.getD op bz).aQ) (fun e he=>by have:=uW (A.mem e he);omega) B with e|⟨j,C,S,T,e3⟩
   ·have F:(cD t y op).getD v W.dflt=y.getD v W.dflt:=e
    grind
   have F:wU (t.M.getD op bz) j=⟨(v:Int),(cD t y op).getD v W.dflt⟩:=by
    unfold wU;rw[S,T];rfl
   have d:∀ n∈mP (t.M.getD op bz) j,tP t s f n:=fun n d=>by
    rcases kK.1 d with d|d
    ·exact b N n d
    grind
   rw[<-F]
   refine .op o C (fun ef=>Q ⟨o,j,C,ef,d⟩) d) with ⟨q,h1,h2⟩|h1
  ·grind
  grind
def HF.AL (d:HF t s f)(I:aJ t)(e:aj t.vars s)(h:mg t s p k):∃ op:Nat,(op:Int)∈p/\NF t s f op:=by
 obtain⟨g,h1,j⟩:=d;rcases w_ (f:=f) I h e (fun v hv=>.st hv) with b|b
 ·exact b
 grind
def Xz (I:aJ t)(b:aj t.vars s)(d:∃ g∈t.aF,¬tP t s ⟨-1,-1⟩ g)(h:mg t s p k):False:=by
 obtain⟨op,_,n⟩:=HF.AL (f:=⟨-1,-1⟩) d I b h;obtain⟨o,j,q,e,_⟩:=n;have:=(NE I o q).1
 grind
end
structure j1 (t:aa) (C:List J) (v:List Rat):Prop where
 len:v.length=C.length
 nn:∀ x∈v,0<=x
 x_:∀ op:Nat,op<t.M.length->bH (fun i=>if (op:Int)∈C.getD i [] then v.getD i 0 else 0) C.length<=((oF t op:Int):Rat)
def NH {f g:Nat->Rat}:∀ {n:Nat},(∀ i,i<n->f i<=g i)->bH f n<=bH g n
 | 0,_=>Rat.le_refl
 | n+1,h=>by
  have h1:=NH (n:=n) fun i b=>h i U;have d:=h n U;show bH f n+f n<=bH g n+g n
  grind
def KA {f:Nat->Rat}:∀ {n:Nat},(∀ i,i<n->0<=f i)->0<=bH f n
 | 0,_=>Rat.le_refl
 | n+1,h=>by
  have h1:=KA (n:=n) fun i b=>h i U;have d:=h n U;show 0<=bH f n+f n
  grind
open Classical in
def j1.Ft {t:aa}{C:List J}{v:List Rat}(h:j1 t C v)(j:mg t y p k):bH (fun i=>if ∃ op:Nat,(op:Int)∈p/\(op:Int)∈C.getD i [] then v.getD i 0 else 0) C.length<=((k:Int):Rat):=by
 have hv:∀ i,i<C.length->0<=v.getD i 0:=fun i e=>by
  have d:i<v.length:=by rw[h.len];exact e
  rw[aq d];exact h.nn _ (zq d)
 induction j with
 | aF _ =>
  rw[oJ (g:=fun _=>0) fun i _=>aM (by grind),CS]
  grind
 | @step y op p k d u _ x =>
  have h1:bH (fun i=>if ∃ q:Nat,(q:Int)∈((op:Int)::p)/\(q:Int)∈C.getD i [] then v.getD i 0 else 0) C.length<=bH (fun i=>(if (op:Int)∈C.getD i [] then v.getD i 0 else 0)+(if ∃ q:Nat,(q:Int)∈p/\(q:Int)∈C.getD i [] then v.getD i 0 else 0)) C.length:=NH fun i e=>by
   have A:=hv i e;by_cases a:(op:Int)∈C.getD i []
   ·rw[ba a,ba ⟨op,ku,a⟩]
    split<;>grind
   rw[aM a];by_cases b:∃ q:Nat,(q:Int)∈p/\(q:Int)∈C.getD i []
   ·rw[ba b]
    obtain⟨q,n,o⟩:=b;rw[ba ⟨q,nt _ n,o⟩];grind
   grind
  rw[Gk]at h1;have n:=h.x_ op d
  grind
open Classical in
def j1.low {t:aa}{C:List J}{v:List Rat}(h:j1 t C v)(b:mg t y p k)(d:∀ i,i<C.length->∃ op:Nat,(op:Int)∈p/\(op:Int)∈C.getD i []):bH (fun i=>v.getD i 0) C.length<=((k:Int):Rat):=by
 have h1:=h.Ft b
 rwa[oJ (g:=fun i=>v.getD i 0) fun i e=>ba (d i e)]at h1
end Go.Proofs.YtmapkjoefdgjfaaGreatDoor
