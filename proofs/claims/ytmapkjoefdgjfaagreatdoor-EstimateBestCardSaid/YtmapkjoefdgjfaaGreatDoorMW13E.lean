/- Several texts. -/
import Derived.Test.YtmapkjoefdgjfaaGreatDoorMW12E
set_option linter.unusedSimpArgs false
set_option linter.unusedVariables false
set_option linter.defProp false
set_option maxRecDepth 8000
set_option maxHeartbeats 16000000
open List Nat
namespace Go.Proofs.YtmapkjoefdgjfaaGreatDoor
open Go.Sl
variable {l p y m:J}{i:Nat}{k c:Int}{K:List Nat}{r:Option (List (List Nat × Int))}
def a8 (t:aa)(cs:J):aa:={ t with M:=(List.range t.M.length).map fun i=>{ t.M.getD i bj with aN:=cs.getD i W.dflt } }
def eB (t:aa)(cs:J):Prop:=cs.length=t.M.length/\∀ x∈cs,0<=x/\x<=1048576
section
variable {t:aa}{cs:J}
def yT:(a8 t cs).M.length=t.M.length:=by simp[a8]
def As (hi:i<t.M.length):(a8 t cs).M.getD i bj={ t.M.getD i bj with aN:=cs.getD i W.dflt }:=by
 simp[a8,List.getD,hi]
def Si {s:J}{op:Nat}(b:op<t.M.length):jU (a8 t cs) s op↔jU t s op:=by
 unfold jU;rw[As b]
def Sj {s:J}{op:Nat}(b:op<t.M.length):cB (a8 t cs) s op=cB t s op:=by
 unfold cB;rw[As b]
def H0 {op:Nat}(b:op<t.M.length):qz (a8 t cs) op=cs.getD op W.dflt:=by
 unfold qz;rw[As b]
def yU (I:aG t)(h:eB t cs):aG (a8 t cs):=by
 refine⟨I.vars,by rw[yT];exact I.M,I.mN,I.cC,I.aH,fun i b=>?_⟩;rw[yT]at b;rw[As b];have e:=I.op i b;have d:=h.2 _ (cH W.dflt (show i<cs.length by rw[h.1];exact b));exact { e with lE:=d.1,pd:=d.2 }
def ð (I:aG t):a8 t (ar t)=t:=by
 have h1:(List.range t.M.length).map (fun i=>{ t.M.getD i bj with aN:=(ar t).getD i W.dflt })=t.M:=by
  refine iB sm fun i h1 d=>?_;rw[mK,qZ,vZ d,am d]
 unfold a8
 rw[h1]
def ju (cs:J)(K:List Nat)(c:Int):J:=(List.range cs.length).map fun i=>if i∈K then cs.getD i W.dflt-c else cs.getD i W.dflt
def Au (cs:J)(K:List Nat)(c:Int):(ju cs K c).length=cs.length:=by simp[ju]
def yV (hi:i<cs.length):(ju cs K c).getD i W.dflt=if i∈K then cs.getD i W.dflt-c else cs.getD i W.dflt:=by simp[ju,List.getD,hi]
def qk (cs:J)(K:List Nat)(c:Int):Prop:=(∃ i∈K,i<cs.length/\cs.getD i W.dflt=c)/\∀ i∈K,c<=cs.getD i W.dflt
def En (h:eB t cs)(hm:qk cs K c):eB t (ju cs K c):=by
 obtain⟨i0,h1,j,n⟩:=hm.1;have e:=h.2 _ (cH W.dflt j);rw[n]at e;refine⟨by rw[Au];exact h.1,fun x hx=>?_⟩;obtain⟨i,g,rfl⟩:=fJ hx;have b:i<cs.length:=by rw[Au]at g;exact g
 rw[<-am (d:=W.dflt) g,yV b];have o:=h.2 _ (cH W.dflt b);split
 ·rename_i hk;have:=hm.2 i hk;omega
 exact o
def ñ (x:cs.length=t.M.length)(A:0<=c)(h:mL (a8 t cs) y p k):∃ d,mL (a8 t (ju cs K c)) y p d/\d<=k/\((∃ op:Nat,(op:Int)∈p/\op∈K)->d+c<=k):=by
 induction h with
 | aH n=>exact⟨0,.aH n,dt _,fun⟨op,h1,_⟩=>absurd h1 fI⟩
 | @step y op p k b o _ u =>
  rw[yT]at b;obtain⟨d,h1,B,v⟩:=u;rw[Sj b]at h1;refine⟨_,.step (by rw[yT];exact b) ((Si b).2 ((Si b).1 o)) (by rw[Sj b];exact h1),?_,fun⟨q,g,j⟩=>?_⟩
  ·rw[H0 b,H0 b,yV U]
   split<;>omega
  rw[H0 b,H0 b,yV U];by_cases hk:op∈K
  ·rw[aM hk];omega
  rw[aC hk];rcases ee.1 g with e|g
  ·rw[Int.ofNat_inj]at e
   subst e;exact absurd j hk
  have:=v ⟨q,g,j⟩;omega
end
inductive rc (t:aa) (s:J):J->Option (List (List Nat × Int))->Prop
 | qi {cs V:J}:gT (a8 t cs) s V->cY t.vars t.aH V=bH->rc t s cs none
 | done {cs V:J}:gT (a8 t cs) s V->cY t.vars t.aH V=0->rc t s cs (some [])
 | step {cs V:J}{g0:Int}{K:List Nat}{c:Int}{r:Option (List (List Nat × Int))}:gT (a8 t cs) s V->0<cY t.vars t.aH V->cY t.vars t.aH V<bH->jv V (dA t) g0->(∀ i,i∈K↔i<t.M.length/\ja (a8 t cs) s V g0 i)->K.Pairwise (·<·)->qk cs K c->rc t s (ju cs K c) r->rc t s cs (r.map ((K,c)::·))
def mn (l:List (List Nat × Int)):Int:=l.foldr (fun x n=>x.2+n) 0
def AT:Option (List (List Nat × Int))->Int|none=>bH|some l=>mn l
def Sk:∀ {l m:List Nat},l.Pairwise (·<·)->m.Pairwise (·<·)->(∀ i,i∈l↔i∈m)->l=m
 | [],[],_,_,_=>rfl
 | [],y::m,_,_,h=>absurd ((h y).2 gz) fI
 | x::l,[],_,_,h=>absurd ((h x).1 gz) fI
 | x::l,y::m,j,hm,h=>by
  obtain⟨g,n⟩:=Kv.1 j;obtain⟨m1,m2⟩:=Kv.1 hm;have e:x=y:=by
   have h1:=(h x).1 gz;have b:=(h y).2 gz;rcases ee.1 h1 with e|h1
   ·exact e
   rcases ee.1 b with e|b
   ·exact e.symm
   have:=m1 x h1;have:=g y b;omega
  subst e
  rw[Sk n m2 fun i=>⟨fun d=>by
   rcases ee.1 ((h i).1 (iR _ d)) with e|b
   ·subst e;have:=g i d;omega
   ·exact b,fun d=>by
   rcases ee.1 ((h i).2 (iR _ d)) with e|b
   ·subst e;have:=m1 i d;omega
   exact b⟩]
def ò {cs:J}{b:Int}(h:qk cs K c)(d:qk cs K b):c=b:=by
 obtain⟨⟨i,h1,_,o⟩,e⟩:=h;obtain⟨⟨j,g,_,q⟩,n⟩:=d;have:=e j g;have:=n i h1;omega
section
variable {t:aa}{s:J}
def ó {cs:J}(h:rc t s cs r):∀ {j},rc t s cs j->r=j:=by
 have e:(0:Int)≠bH:=dc
 induction h with
 | qi h1 d =>
  intro j n
  cases n with
  | qi _ _=>rfl
  | done b g=>rw[Av h1 b,g]at d;exact absurd d e
  | step b g o _ _ _ _ _=>rw[Av h1 b]at d;omega
 | done h1 d =>
  intro j n
  cases n with
  | qi b g=>rw[Av h1 b,g]at d;exact absurd d.symm e
  | done _ _=>rfl
  | step b g o _ _ _ _ _=>rw[Av h1 b]at d;omega
 | step h1 d q u v x A _ B =>
  intro j n
  cases n with
  | qi b g=>rw[Av h1 b]at q;omega
  | done b g=>rw[Av h1 b]at d;omega
  | step b g o C F G H L =>
   have N:=Av h1 b;subst N;have P:=CZ u C;subst P;have Q:=Sk x G fun i=>(v i).trans (F i).symm;subst Q;have R:=ò A H;subst R;rw[B L]
def ô {t:aa}{V:J}{g0:Int}(I:jv V (dA t) g0)(e:0<cY t.vars t.aH V):cY t.vars t.aH V=dg V g0:=by
 obtain⟨f,b,he⟩:=iS.1 I.1;have h1:dg V g0<=cY t.vars t.aH V:=by rw[<-he];exact(yW (Aw _ _ _)).1 (dt _) f b
 refine GX ?_ h1;by_cases d:0<=dg V g0
 ·exact(yW d).2 fun f b=>I.ge (iS.2 ⟨f,b,rfl⟩)
 have:cY t.vars t.aH V<=0:=(yW (dt _)).2 fun f b=>by have:=I.ge (iS.2 ⟨f,b,rfl⟩);omega
 omega
def H3 {cs V:J}{g0:Int}(I:aG t)(d:ab t.vars s)(g:eB t cs)(hm:gT (a8 t cs) s V)(h:0<cY t.vars t.aH V)(j:cY t.vars t.aH V<bH)(b:jv V (dA t) g0):gE (a8 t cs) s V g0:=by
 have e:=ô b h;exact⟨yU I g,d,hm,b,U,U⟩
def Sm {cs V:J}{g0:Int}(I:aG t)(o:eB t cs)(x:gE (a8 t cs) s V g0)(hi:i<t.M.length)(h:ja (a8 t cs) s V g0 i):1<=cs.getD i W.dflt:=by
 obtain⟨u,hu,b,d⟩:=h;have h1:=x.zz hu d;obtain⟨g,j,q,v,rfl⟩:=C1.1 hu;have e:g=i:=by
  have n:(g:Int)=(i:Int):=b;omega
 subst e;have n:0<((a8 t cs).M.getD g bj).aN:=h1;rw[As hi]at n;exact n
def LC {cs V:J}{g0:Int}(x:gE (a8 t cs) s V g0):∃ i,i<t.M.length/\ja (a8 t cs) s V g0 i:=by
 obtain⟨u,hu,b⟩:=x.some;obtain⟨e,j,d,g,rfl⟩:=C1.1 hu;rw[yT]at d;exact⟨e,d,_,hu,rfl,b⟩
def õ (I:aG t)(n:ab t.vars s){cs:J}(h:rc t s cs r):eB t cs->∀ {p:J}{k:Int},mL (a8 t cs) s p k->∃ l,r=some l/\mn l<=k:=by
 induction h with
 | @qi cs V h1 o =>
  intro g p k j;have b:=yU I g;have u:=(yX (t:=a8 t cs) n h1)
  have v:cA (a8 t cs) s<bH:=by
   have key:∀ {y q:J}{d:Int},mL (a8 t cs) y q d->cA (a8 t cs) y<bH:=by
    intro y q d hq
    induction hq with
    | aH F=>rw[I4 b F];decide
    | @step y op q d B G _ A =>
     by_cases C:ab (a8 t cs).vars y
     ·have g1:=I5 b C B G
      have g2:=NP b _ A;have g3:=Ce b B;have e:bH=1125899906842624:=rfl;omega
     rw[A5 C];decide
   exact key j
  rw[u,show cY (a8 t cs).vars (a8 t cs).aH V=bH from o]at v
  omega
 | done _ _ =>
  intro g p k j
  exact⟨[],rfl,j.nn (yU I g)⟩
 | @step cs V g0 K c r h1 o u v C Q F _ A =>
  intro g p k j;have x:=H3 I n g h1 o u v;obtain⟨op,G,B,H⟩:=x.zb j n fun f L=>.st L;rw[yT]at B;obtain⟨⟨i,i1,i2,i3⟩,i4⟩:=F;have b:0<=c:=by have:=g.2 _ (cH W.dflt i2);omega
  obtain⟨R,N,S,P⟩:=ñ (K:=K) g.1 b j;have T:=P ⟨op,G,(C op).2 ⟨B,H⟩⟩;obtain⟨l,e,hl⟩:=A (En g ⟨⟨i,i1,i2,i3⟩,i4⟩) N;refine⟨(K,c)::l,by rw[e];rfl,?_⟩;show c+mn l<=k;omega
end
def Sp:∀ {l:List Nat}{x:Nat},x∈l->x<=l.sum
 | [],_,h=>absurd h fI
 | y::l,x,h=>by
  rw[yI];rcases ee.1 h with e|h
  ·omega
  have:=Sp h;omega
def Sq (f g:Nat->Nat):∀ {l:List Nat},(∀ i∈l,f i<=g i)->(l.map f).sum<=(l.map g).sum
 | [],_=>cD _
 | x::l,h=>by
  have h1:=h x gz;have d:=Sq f g (l:=l) fun i b=>h i (iR _ b);simp only[l8,yI];omega
def Sr (f g:Nat->Nat)(c:Nat):∀ {l:List Nat},(∀ i∈l,f i<=g i)->(∃ i∈l,f i+c<=g i)->(l.map f).sum+c<=(l.map g).sum
 | [],_,h=>by obtain⟨i,b,_⟩:=h;exact absurd b fI
 | x::l,h,d=>by
  have h1:=h x gz;obtain⟨i,b,j⟩:=d;simp only[l8,yI];rcases ee.1 b with e|b
  ·subst e
   have:=Sq f g (l:=l) fun i b=>h i (iR _ b);omega
  have:=Sr f g c (l:=l) (fun i b=>h i (iR _ b)) ⟨i,b,j⟩;omega
def LD (cs:J):gU cs=((List.range cs.length).map fun i=>(cs.getD i W.dflt).toNat).sum:=by
 unfold gU;congr 1;refine iB sm fun i h1 d=>?_;have b:i<cs.length:=by simpa using h1
 rw[mK,mK,qZ,am b]
def LF {cs:J}(e:∀ x∈cs,0<=x)(g:0<=c)(hm:qk cs K c):gU (ju cs K c)+c.toNat<=gU cs:=by
 obtain⟨⟨i,h1,b,h⟩,n⟩:=hm;rw[LD,LD,Au];refine Sr _ _ _ (fun j d=>?_) ⟨i,mem_range.2 b,?_⟩
 ·rw[yV (mem_range.1 d)]
  split<;>omega
 rw[yV b,aM h1];omega
def Ss {cs:J}{B:Nat}(h:∀ x∈cs,x<=(B:Int)):gU cs<=cs.length*B:=by
 induction cs with
 | nil=>exact bu _
 | cons x l b =>
  have h1:=h x gz;have d:=b fun y e=>h y (iR _ e);unfold gU at d ⊢;simp only[l8,yI,length_cons,zO];omega
section
variable {t:aa}{s:J}
def ö {cs:J}(I:aG t)(h:rc t s cs r):eB t cs->∀ l,r=some l->0<=mn l/\mn l<=(gU cs:Int):=by
 induction h with
 | qi _ _=>intro _ l e;cases e
 | done _ _=>intro _ l e;cases e;exact⟨dt _,Cy _⟩
 | @step cs V g0 K c r _ _ _ _ _ _ g _ o =>
  intro j l e;have b:=En j g;have hm:=g;obtain⟨⟨i,i1,i2,i3⟩,i4⟩:=g;have n:0<=c:=by have:=j.2 _ (cH W.dflt i2);omega
  cases r with
  | none=>cases e
  | some d =>
   have q:l=(K,c)::d:=(wx e).symm;subst q;have h1:=o b d rfl;have u:=LF (fun x hx=>(j.2 x hx).1) n hm;show 0<=c+mn d/\c+mn d<=_;omega
def St (cs:J):∀ {K:List Nat},K≠[]->(∀ i∈K,i<cs.length)->∃ c,qk cs K c
 | [],h,_=>absurd rfl h
 | [x],_,h=>⟨cs.getD x W.dflt,⟨x,gz,h x gz,rfl⟩,fun i d=>by rw[dp.1 d];exact dt _⟩
 | x::y::l,_,h=>by
  obtain⟨c,⟨i,h1,n,o⟩,g⟩:=St cs (K:=y::l) sm fun i d=>h i (iR _ d);by_cases hx:c<=cs.getD x W.dflt
  ·refine⟨c,⟨i,iR _ h1,n,o⟩,fun j b=>?_⟩
   rcases ee.1 b with e|b
   ·rw[e];exact hx
   exact g j b
  refine⟨cs.getD x W.dflt,⟨x,gz,h x gz,rfl⟩,fun j b=>?_⟩;rcases ee.1 b with e|b
  ·rw[e];exact dt _
  have:=g j b;omega
structure Fo (t:aa) (s cs V:J) (K:List Nat) (c:Int):Prop where
 Er:K.Pairwise (·<·)
 min:qk cs K c
 pos:1<=c
 le:c<=1048576
 ne:K≠[]
 lt:∀ i∈K,i<t.M.length
def Su {cs V:J}{g0:Int}(I:aG t)(d:eB t cs)(x:gE (a8 t cs) s V g0)(g:∀ i,i∈K↔i<t.M.length/\ja (a8 t cs) s V g0 i)(h:K.Pairwise (·<·))(hm:qk cs K c):Fo t s cs V K c:=by
 have b:=hm;obtain⟨⟨i,i1,i2,i3⟩,i4⟩:=hm;obtain⟨n,o⟩:=(g i).1 i1;have h1:=Sm I d x n o;have u:=d.2 _ (cH W.dflt i2);exact⟨h,b,U,U,fun e=>by rw[e]at i1;exact absurd i1 fI,fun j q=>((g j).1 q).1⟩
open Classical in
def ø (I:aG t)(C:ab t.vars s):∀ (m:Nat) {cs:J},eB t cs->gU cs<=m->∃ r,rc t s cs r:=by
 intro m
 induction m with
 | zero =>
  intro cs d hm;obtain⟨V,h⟩:=Ax (yU I d) s;by_cases o:0<cY t.vars t.aH V
  ·by_cases v:cY t.vars t.aH V<bH
   ·have u:dA t≠[]:=fun e=>by
     have:t.aH=[]:=by simpa [dA] using e
     rw[this]at o;exact absurd o (by simp[cY])
    obtain⟨g0,n⟩:=C3 (V:=V) u;have x:=H3 I C d h o v n;obtain⟨i,A,g⟩:=LC x;have h1:=Sm I d x A g;have b:(cs.getD i W.dflt).toNat<=gU cs:=by
     rw[LD];exact Sp (iS.2 ⟨i,mem_range.2 (by rw[d.1];exact A),rfl⟩)
    omega
   exact⟨_,.qi h (by have:=vd (yU I d) h;have e:cY (a8 t cs).vars (a8 t cs).aH V=cY t.vars t.aH V:=rfl;omega)⟩
  exact⟨_,.done h (by have:=Aw t.vars t.aH V;omega)⟩
 | succ m H =>
  intro cs d hm;obtain⟨V,h⟩:=Ax (yU I d) s;by_cases o:0<cY t.vars t.aH V
  ·by_cases v:cY t.vars t.aH V<bH
   ·have u:dA t≠[]:=fun e=>by
     have:t.aH=[]:=by simpa [dA] using e
     rw[this]at o;exact absurd o (by simp[cY])
    obtain⟨g0,n⟩:=C3 (V:=V) u;have x:=H3 I C d h o v n;obtain⟨i,A,g⟩:=LC x;have B:∀ j,j∈(List.range t.M.length).filter (fun j=>decide (ja (a8 t cs) s V g0 j))↔j<t.M.length/\ja (a8 t cs) s V g0 j:=fun j=>by
     rw[rV,mem_range,gQ]
    have q:((List.range t.M.length).filter (fun j=>decide (ja (a8 t cs) s V g0 j))).Pairwise (·<·):=Pairwise.filter _ Dw;obtain⟨c,b⟩:=St cs (K:=(List.range t.M.length).filter (fun j=>decide (ja (a8 t cs) s V g0 j))) (fun e=>by have:=(B i).2 ⟨A,g⟩;rw[e]at this;exact absurd this fI) (fun j L=>by rw[d.1];exact((B j).1 L).1);have F:=Su I d x B q b;have G:=LF (fun x hx=>(d.2 x hx).1) (by have:=F.pos;omega) b;obtain⟨r,N⟩:=H (En d b) (by have:=F.pos;omega);exact⟨_,.step h o v n B q b N⟩
   exact⟨_,.qi h (by have:=vd (yU I d) h;have e:cY (a8 t cs).vars (a8 t cs).aH V=cY t.vars t.aH V:=rfl;omega)⟩
  exact⟨_,.done h (by have:=Aw t.vars t.aH V;omega)⟩
end
def Eo {t:aa}(I:aG t):eB t (ar t):=⟨uA t,Cc I⟩
open Classical in
noncomputable def pW (t:aa)(s:J):Int:=if h:ab t.vars s/\∃ r,rc t s (ar t) r then AT (Classical.choose h.2) else 0
def u0 {t:aa}{s:J}(b:ab t.vars s)(h:rc t s (ar t) r):pW t s=AT r:=by
 have hx:ab t.vars s/\∃ r,rc t s (ar t) r:=⟨b,r,h⟩
 unfold pW;rw[dif_pos hx,ó (wh hx.2) h]
def AU {t:aa}{s:J}(b:¬ab t.vars s):pW t s=0:=by
 unfold pW;rw[dif_neg fun h=>b h.1]
def Sv {t:aa}(I:aG t){s:J}(b:ab t.vars s):∃ r,rc t s (ar t) r:=ø I b _ (Eo I) (cD _)
def K4 {t:aa}(I:aG t){s:J}{l:List (List Nat × Int)}(h:rc t s (ar t) (some l)):0<=mn l/\mn l<=4294967296:=by
 obtain⟨h1,b⟩:=ö I h (Eo I) l rfl;have d:=Ss (cs:=ar t) (B:=1048576) fun x hx=>(Cc I x hx).2;have e:(ar t).length*1048576<=4096*1048576:=uL _ (by rw[uA];exact I.M);omega
def Fp {t:aa}(I:aG t):BB t (pW t):=by
 have key:∀ s,0<=pW t s/\pW t s<=bH:=fun s=>by
  have e:bH=1125899906842624:=rfl;by_cases b:ab t.vars s
  ·obtain⟨r,d⟩:=Sv I b
   rw[u0 b d]
   cases r with
   | none=>exact⟨by show (0:Int)<=bH;omega,dt _⟩
   | some l=>have:=K4 I d;exact⟨this.1,by show mn l<=bH;omega⟩
  rw[AU b];exact⟨dt _,U⟩
 exact⟨I,fun y=>(key y).1,fun y=>(key y).2⟩
def ù {t:aa}(I:aG t){s:J}(h:mL t s p k):pW t s<bH/\pW t s<=k:=by
 have e:bH=1125899906842624:=rfl;by_cases b:ab t.vars s
 ·obtain⟨r,d⟩:=Sv I b
  have g:mL (a8 t (ar t)) s p k:=by rw[ð I];exact h
  obtain⟨l,j,h1⟩:=õ I b d (Eo I) g;subst j;rw[u0 b d];have:=K4 I d;exact⟨by show mn l<bH;omega,h1⟩
 rw[AU b];exact⟨U,h.nn I⟩
def qm (V:J)(o f:Int):Int:=if o<0\/dg V o<dg V f\/(dg V f=dg V o/\f<o) then f else o
def iv (V l:J):Int:=l.foldl (qm V) (-1)
def Sw (V l:J)(f:Int):iv V (l++[f])=qm V (iv V l) f:=by simp[iv]
def yY {V:J}:∀ {l:J},(∀ f∈l,0<=f)->(l=[]/\iv V l = -1)\/(0<=iv V l/\jv V l (iv V l)):=by
 intro l;refine mP (P:=fun l=>(∀ f∈l,0<=f)->(l=[]/\iv V l = -1)\/(0<=iv V l/\jv V l (iv V l))) (fun _=>.inl ⟨rfl,rfl⟩) ?_ l;intro l f j h;right;have b:=h f sm;rw[Sw];rcases j fun g I=>h g (by simp[I]) with ⟨e,h1⟩|⟨n,h1,d⟩
 ·rw[h1,e]
  have:qm V (-1) f=f:=aM (.inl dc);rw[this]
  exact⟨b,sm,fun g I=>by
   have:g=f:=by simpa using I
   rw[this];exact .inr ⟨rfl,dt _⟩⟩
 unfold qm;split
 ·rename_i o
  refine⟨b,sm,fun g I=>?_⟩;rcases gG.1 I with I|I
  ·rcases d g I with q|q<;>omega
  rw[dp.1 I];exact .inr ⟨rfl,dt _⟩
 rename_i o;refine⟨n,by simp[h1],fun g I=>?_⟩;rcases gG.1 I with I|I
 ·exact d g I
 rw[dp.1 I];omega
def jN (V l:J):Int:=if iv V l<0 then 0 else dg V (iv V l)
def Ay {V:J}(g:∀ f∈l,0<=f/\0<=dg V f){b:Int}(j:0<=b):jN V l<=b↔∀ f∈l,dg V f<=b:=by
 unfold jN;rcases yY (V:=V) (l:=l) fun f d=>(g f d).1 with ⟨e,h1⟩|⟨n,h1⟩
 ·rw[h1,aM dc,e]
  exact⟨fun _ f d=>absurd d fI,fun _=>j⟩
 rw[aC U];exact⟨fun h f d=>rU (h1.ge d) h,fun h=>h _ h1.1⟩
def Az {V:J}(b:∀ f∈l,0<=f/\0<=dg V f):0<=jN V l:=by
 unfold jN;rcases yY (V:=V) (l:=l) fun f d=>(b f d).1 with ⟨_,h1⟩|⟨e,h1⟩
 ·rw[h1,aM dc];exact dt _
 rw[aC U];exact(b _ h1.1).2
def LG {V:J}(d:∀ f∈l,0<=f/\0<=dg V f):jN V l<bH↔qo V l:=by
 have h:=Ay (V:=V) d (b:=bH-1) dc;unfold qo;constructor
 ·intro h1 g I;have:=h.1 U g I;omega
 intro h1;have:=h.2 fun g I=>by have:=h1 g I;omega
 omega
def H4 {V:J}{b:Int}:∀ {l:J}{a:Int},l.foldl (fun m n=>max m (dg V n)) a<=b↔a<=b/\∀ f∈l,dg V f<=b
 | [],a=>sm
 | x::l,a=>by
  rw[sy,H4 (l:=l)];constructor
  ·rintro⟨h1,g⟩
   have h:=DO.1 h1
   exact⟨h.1,fun f d=>by
    rcases ee.1 d with e|d
    ·rw[e];exact h.2
    exact g f d⟩
  rintro⟨h1,g⟩;exact⟨DO.2 ⟨h1,g x gz⟩,fun f d=>g f (iR _ d)⟩
def Sx {V:J}(b:∀ f∈l,0<=f/\0<=dg V f):jN V l=l.foldl (fun m n=>max m (dg V n)) 0:=by
 refine GX ?_ ?_
 ·have d:(0:Int)<=l.foldl (fun m n=>max m (dg V n)) 0:=(H4.1 (dt _)).1
  exact(Ay b d).2 (H4.1 (dt _)).2
 exact H4.2 ⟨Az b,(Ay b (Az b)).1 (dt _)⟩
def mB (l m:J):Prop:=∀ x,x∈l↔x∈m
def ú {V:J}(h:mB l m){f:Int}:jv V l f↔jv V m f:=by
 unfold jv;rw[h f];exact⟨fun⟨a,b⟩=>⟨a,fun g I=>b g ((h g).2 I)⟩,fun⟨a,b⟩=>⟨a,fun g I=>b g ((h g).1 I)⟩⟩
def Sy (h:mB l m):l=[]↔m=[]:=by
 constructor
 ·intro e;subst e
  cases m with
  | nil=>rfl
  | cons x m=>exact absurd ((h x).2 gz) fI
 intro e;subst e
 cases l with
 | nil=>rfl
 | cons x l=>exact absurd ((h x).1 gz) fI
structure yj (t:aa) (z D:J):Prop where
 len:D.length=aR t
 dK:∀ g:Int,0<=g->g<aR t->0<=dg D g/\dg D g<=bH
 qF:∀ g:Int,0<=g->g<aR t->dg D g<bH->jI (bW t) (mb t.vars z) g (dg D g)
 st:∀ g,mb t.vars z g->dg D g<=0
section
variable {t:aa}{z D:J}
def yj.vR (h:yj t z D)(I:aG t)(hi:i<(bW t).length){L:J}(d:mB L (un (bW t) i).aw):∀ f∈L,(0<=f/\0<=dg D f)/\f<aR t:=fun f e=>by
 have b:=(uS I).aw i hi f ((d f).1 e);exact⟨⟨b.1,(h.dK f b.1 b.2).1⟩,b.2⟩
def yj.sU (h:yj t z D)(I:aG t)(hi:i<(bW t).length){L:J}(B:mB L (un (bW t) i).aw)(h1:jN D L<bH)(h2:jN D L+(un (bW t) i).aN<dg D (un (bW t) i).aK) :
  yj t z (D.set (un (bW t) i).aK.toNat (jN D L+(un (bW t) i).aN))/\gU (D.set (un (bW t) i).aK.toNat (jN D L+(un (bW t) i).aN))<gU D:=by
 have C:=uS I;have hm:=C.aK i hi;have R:=C.aN i hi;have F:=fun f N=>(h.vR I hi B f N).1;have q:=Az F;have u:=(LG F).1 h1;have eI:=(Ay F q).1 (dt _);have hlen:=h.len;have S:=h.dK _ hm.1 hm.2
 have G:jI (bW t) (mb t.vars z) (un (bW t) i).aK ((un (bW t) i).aN+jN D L):=.iJ (v:=fun n=>dg D n) hi q (fun n d=>by
  have x:=(B n).2 d;have b:=C.aw i hi n d
  exact h.qF n b.1 b.2 (u n x)) fun n d=>eI n ((B n).2 d)
 rw[DN]at G;have b:∀ g:Int,0<=g->dg (D.set (un (bW t) i).aK.toNat (jN D L+(un (bW t) i).aN)) g=if g=(un (bW t) i).aK then jN D L+(un (bW t) i).aN else dg D g:=fun g j=>Cg j hm.1 U
 refine⟨⟨by rw[gY];exact hlen,fun g j o => ?_,fun g j o x=>?_,fun g H=>?_⟩,LH U (by simp only[dg]at *;omega)⟩
 ·rw[b g j]
  split
  ·omega
  exact h.dK g j o
 ·rw[b g j]at x ⊢
  split
  ·rename_i e;rw[e];exact G
  rename_i e;rw[aC e]at x;exact h.qF g j o x
 by_cases j:0<=g
 ·rw[b g j]
  have A:=h.st g H;split
  ·rename_i e;rw[<-e]at h2;omega
  exact A
 have A:=h.st g H;have P:dg (D.set (un (bW t) i).aK.toNat (jN D L+(un (bW t) i).aN)) g=dg (D.set (un (bW t) i).aK.toNat (jN D L+(un (bW t) i).aN)) 0:=by unfold dg;rw[show g.toNat=(0:Int).toNat by omega]
 have Q:dg D g=dg D 0:=by unfold dg;rw[show g.toNat=(0:Int).toNat by omega]
 rw[Q]at A;rw[P,b 0 (dt _)];split
 ·rename_i e;rw[<-e]at h2;omega
 exact A
def yj.pQ (h:yj t z D)(I:aG t)(d:∀ i:Nat,i<(bW t).length->jN D (un (bW t) i).aw<bH->dg D (un (bW t) i).aK<=jN D (un (bW t) i).aw+(un (bW t) i).aN):gT t z D:=by
 have e:=uS I;refine Sz h.len h.dK e h.st (fun i b=>?_) h.qF;have j:=fun f g=>(h.vR I b (L:=(un (bW t) i).aw) (fun _=>x6) f g).1;rw[<-Sx j];have hm:=e.aK i b;have n:=h.dK _ hm.1 hm.2;have o:=e.aN i b;by_cases g:jN D (un (bW t) i).aw<bH
 ·have:=d i b g;omega
 omega
end
def SA {V:J}(h:mB l m)(b:∀ f∈l,0<=f/\0<=dg V f):jN V l=jN V m:=by
 have hm:∀ f∈m,0<=f/\0<=dg V f:=fun f d=>b f ((h f).2 d);refine GX ?_ ?_
 ·exact(Ay b (Az hm)).2 fun f d=>(Ay hm (Az hm)).1 (dt _) f ((h f).1 d)
 exact(Ay hm (Az b)).2 fun f d=>(Ay b (Az b)).1 (dt _) f ((h f).2 d)
def LJ {t:aa}{cs:J}(hi:i<(bW t).length):(bW (a8 t cs)).length=(bW t).length/\(un (bW (a8 t cs)) i).op=(un (bW t) i).op/\(un (bW (a8 t cs)) i).aK=(un (bW t) i).aK/\(un (bW (a8 t cs)) i).aw=(un (bW t) i).aw/\(un (bW (a8 t cs)) i).aN=cs.getD (un (bW t) i).op.toNat W.dflt:=by
 have key:∀ k,k<=t.M.length->gK (a8 t cs) k=(gK t k).map fun u=>{ u with aN:=cs.getD u.op.toNat W.dflt }:=by
  intro k
  induction k with
  | zero=>intro _;simp[gK]
  | succ k b =>
   intro hk;rw[yN,yN,b U,oh,As U];congr 1;unfold lN;rw[zG];refine xN fun j _=>?_;simp[yO,a8]
 have e:bW (a8 t cs)=(bW t).map fun u=>{ u with aN:=cs.getD u.op.toNat W.dflt }:=by
  have:=key t.M.length (cD _);unfold bW;rw[yT];exact this
 have h1:un (bW (a8 t cs)) i={ un (bW t) i with aN:=cs.getD (un (bW t) i).op.toNat W.dflt }:=by
  rw[e];unfold un;rw[jo,am (by rw[iz];exact hi),mK,am hi]
 exact⟨by rw[e,iz],by rw[h1],by rw[h1],by rw[h1],by rw[h1]⟩
structure um where
 bh:Int
 dst:Int
 op:Int
variable {a:um}
def bb:Ty um:=⟨3,fun a=>[E a.bh,E a.dst,E a.op],fun _=>rfl,⟨0,0,0⟩⟩
instance FJ:kq bb:=⟨fun x v hv=>by simp only[bb,ee,fI,pP]at hv;rcases hv with rfl|rfl|rfl<;>rfl⟩
def sL (V:J)(u:Un):List um:=if jN V u.aw<bH then [⟨iv V u.aw,u.aK,u.op⟩] else []
def nQ (t:aa)(V:J)(k:Nat):List um:=(List.range k).flatMap fun (i:Nat)=>sL V (un (bW t) i)
def û (t:aa)(V:J):nQ t V 0=[]:=by simp[nQ]
def SB (t:aa)(V:J)(k:Nat):nQ t V (k+1)=nQ t V k++sL V (un (bW t) k):=by simp[nQ,l5]
def SC {t:aa}{V:J}{k:Nat}:a∈nQ t V k↔∃ i:Nat,i<k/\jN V (un (bW t) i).aw<bH/\a=⟨iv V (un (bW t) i).aw,(un (bW t) i).aK,(un (bW t) i).op⟩:=by
 unfold nQ;rw[tE];constructor
 ·rintro⟨i,d,b⟩
  unfold sL at b;split at b
  ·exact⟨i,mem_range.1 d,‹_›,dp.1 b⟩
  exact absurd b fI
 rintro⟨i,d,h,rfl⟩;exact⟨i,mem_range.2 d,by unfold sL;rw[aM h];exact dp.2 rfl⟩
def LK (t:aa)(V:J):∀ k,(nQ t V k).length<=k
 | 0=>by simp[nQ]
 | k+1=>by
  rw[SB,length_append];have:=LK t V k;have h:(sL V (un (bW t) k)).length<=1:=by unfold sL;split<;>simp
  omega
def ü {V:J}(h:mB l m)(b:∀ f∈l,0<=f):iv V l=iv V m:=by
 have hm:∀ f∈m,0<=f:=fun f g=>b f ((h f).2 g);rcases yY (V:=V) b with ⟨e,h1⟩|⟨j,h1⟩
 ·have:=(Sy h).1 e
  subst this;rw[h1];rfl
 rcases yY (V:=V) hm with ⟨e,d⟩|⟨_,d⟩
 ·have:=(Sy h).2 e
  subst this;exact absurd h1.1 fI
 exact CZ ((ú h).1 h1) d
def aW (t:aa)(V:J):List um:=nQ t V (bW t).length
section
variable {t:aa}{z V cs:J}{g0:Int}
def H8 (I:aG t)(v:∀ g:Int,0<=g->g<aR t->0<=dg V g)(h:a∈aW t V):∃ u∈bW (a8 t cs),qo V u.aw/\u.aK=a.dst/\u.op=a.op/\u.aN=cs.getD a.op.toNat W.dflt/\((u.aw=[]/\a.bh = -1)\/(0<=a.bh/\jv V u.aw a.bh))/\(0<=a.dst/\a.dst<aR t)/\a.bh<aR t/\∃ op:Nat,a.op=(op:Int)/\op<t.M.length:=by
 obtain⟨i,d,b,rfl⟩:=SC.1 h;obtain⟨x,A,B,q,C⟩:=LJ (cs:=cs) d;have n:=uS I;have o:∀ f∈(un (bW t) i).aw,0<=f/\0<=dg V f:=fun f b=>by
  have:=n.aw i d f b;exact⟨this.1,v f this.1 this.2⟩
 have hm:=n.aK i d;obtain⟨op,j,F,_,G⟩:=C1.1 (yZ d);have H:un (bW t) (i:Int)=yO t.vars op (t.M.getD op bj) j:=G;refine⟨un (bW (a8 t cs)) i,yZ (by rw[x];exact d),by rw[q];exact(LG o).1 b,B,A,C,?_,hm,?_,op,by rw[H];rfl,F⟩
 ·rw[q]
  rcases yY (V:=V) (l:=(un (bW t) i).aw) fun f b=>(o f b).1 with ⟨e,h1⟩|h1
  ·exact .inl ⟨e,h1⟩
  exact .inr h1
 rcases yY (V:=V) (l:=(un (bW t) i).aw) fun f b=>(o f b).1 with ⟨e,h1⟩|h1
 ·show iv V (un (bW t) i).aw<_;omega
 exact(n.aw i d _ h1.2.1).2
def H9 (I:aG t)(n:∀ g:Int,0<=g->g<aR t->0<=dg V g){u:Un}(h:u∈bW (a8 t cs))(d:qo V u.aw):∃ a∈aW t V,a.dst=u.aK/\a.op=u.op/\u.aN=cs.getD a.op.toNat W.dflt/\((u.aw=[]/\a.bh = -1)\/(0<=a.bh/\jv V u.aw a.bh)):=by
 obtain⟨i,B,rfl⟩:=ve h;have b:i<(bW t).length:=by
  have h1:∀ k,k<=t.M.length->(gK (a8 t cs) k).length=(gK t k).length:=by
   intro k
   induction k with
   | zero=>intro _;simp[gK]
   | succ k j =>
    intro hk;rw[yN,yN,length_append,length_append,j U,As U,Bz,Bz]
  have j:(bW (a8 t cs)).length=(bW t).length:=by
   unfold bW;rw[yT];exact h1 _ (cD _)
  omega
 obtain⟨C,o,q,v,x⟩:=LJ (cs:=cs) b;have A:=uS I;have j:∀ f∈(un (bW t) i).aw,0<=f/\0<=dg V f:=fun f d=>by
  have:=A.aw i b f d;exact⟨this.1,n f this.1 this.2⟩
 rw[v]at d ⊢;refine⟨_,SC.2 ⟨i,b,(LG j).2 d,rfl⟩,q.symm,o.symm,x,?_⟩;rcases yY (V:=V) (l:=(un (bW t) i).aw) fun f d=>(j f d).1 with ⟨e,h1⟩|h1
 ·exact .inl ⟨e,h1⟩
 exact .inr h1
def ý (I:aG t)(d:∀ g:Int,0<=g->g<aR t->0<=dg V g)(h:a∈aW t V)(B:0<=a.bh)(j:cs.getD a.op.toNat W.dflt=0)(n:ZT (a8 t cs) V g0 a.dst):ZT (a8 t cs) V g0 a.bh:=by
 obtain⟨u,o,q,v,C,x,A,_⟩:=H8 (cs:=cs) I d h;rcases A with ⟨_,e⟩|⟨_,b⟩
 ·omega
 exact .step o q b (by rw[x];exact j) (by rw[v];exact n)
def Fq (I:aG t)(n:∀ g:Int,0<=g->g<aR t->0<=dg V g){B:Int->Prop}(o:B g0)(d:∀ a∈aW t V,0<=a.bh->cs.getD a.op.toNat W.dflt=0->B a.dst->B a.bh){f:Int}(h:ZT (a8 t cs) V g0 f):B f:=by
 induction h with
 | aH=>exact o
 | @step u f hu q b v _ x =>
  obtain⟨a,A,a2,a3,a4,a5⟩:=H9 I n hu q;rcases a5 with ⟨e,_⟩|⟨C,j⟩
  ·rw[e]at b;exact absurd b.1 fI
  have:=d a A C (by rw[<-a4];exact v) (by rw[a2];exact x);rw[CZ j b]at this;exact this
def SD (I:aG t)(o:∀ g:Int,0<=g->g<aR t->0<=dg V g)(h:a∈aW t V)(b:a.bh<0\/ZS (a8 t cs) z V g0 a.bh)(d:¬ZT (a8 t cs) V g0 a.dst):ZS (a8 t cs) z V g0 a.dst:=by
 obtain⟨u,n,q,v,A,B,x,_⟩:=H8 (cs:=cs) I o h;rw[<-v]at d ⊢;rcases x with ⟨e,_⟩|⟨C,j⟩
 ·exact .start n e d
 rcases b with b|b
 ·omega
 exact .step n q j b d
def Ft (I:aG t)(v:∀ g:Int,0<=g->g<aR t->0<=dg V g){S:Int->Prop}(A:∀ f,mb t.vars z f->S f)(j:∀ a∈aW t V,(a.bh<0\/S a.bh)->¬ZT (a8 t cs) V g0 a.dst->S a.dst){f:Int}(h:ZS (a8 t cs) z V g0 f):S f:=by
 induction h with
 | st h=>exact A _ h
 | @start u hu x o =>
  obtain⟨a,q,a2,a3,a4,a5⟩:=H9 I v hu (fun n h=>by rw[x]at h;exact absurd h fI);rw[<-a2]at o ⊢;rcases a5 with ⟨_,e⟩|⟨_,b⟩
  ·exact j a q (.inl U) o
  rw[x]at b;exact absurd b.1 fI
 | @step u f hu B d _ o C =>
  obtain⟨a,q,a2,a3,a4,a5⟩:=H9 I v hu B;rw[<-a2]at o ⊢;rcases a5 with ⟨e,_⟩|⟨_,b⟩
  ·rw[e]at d;exact absurd d.1 fI
  exact j a q (.inr (by rw[CZ b d];exact C)) o
def SE (I:aG t)(q:∀ g:Int,0<=g->g<aR t->0<=dg V g):ja (a8 t cs) z V g0 i↔∃ a∈aW t V,a.op=(i:Int)/\(a.bh<0\/ZS (a8 t cs) z V g0 a.bh)/\ZT (a8 t cs) V g0 a.dst:=by
 constructor
 ·rintro⟨u,hu,j,v,h,n⟩
  obtain⟨a,x,a2,a3,a4,a5⟩:=H9 I q hu v;refine⟨a,x,by rw[a3];exact j,?_,by rw[a2];exact n⟩;rcases a5 with ⟨e,h1⟩|⟨A,b⟩
  ·exact .inl U
  rcases h with e|⟨f,d,o⟩
  ·rw[e]at b;exact absurd b.1 fI
  exact .inr (by rw[CZ b d];exact o)
 rintro⟨a,b,j,h,n⟩;obtain⟨u,o,v,x,B,F,C,_⟩:=H8 (cs:=cs) I q b;refine⟨u,o,by rw[B];exact j,v,?_,by rw[x];exact n⟩;rcases C with ⟨e,_⟩|⟨A,d⟩
 ·exact .inl e
 rcases h with h|h
 ·omega
 exact .inr ⟨_,d,h⟩
end
def k9 (B:List Bool)(f:Int):Bool:=B.getD f.toNat ah.dflt
def mo (B:List Bool):Nat:=B.countP (fun b => !b)
def y6 {B:List Bool}{f g:Int}(b:0<=f)(d:f<B.length)(I:0<=g):k9 (B.set f.toNat true) g=if g=f then true else k9 B g:=by
 unfold k9;rw[SF U];by_cases e:g=f
 ·rw[aM e,aM (by rw[e])]
 rw[aC e,aC U]
def Ia:∀ {B:List Bool}{i:Nat},i<B.length->B.getD i ah.dflt=false->mo (B.set i true)<mo B
 | [],i,h,_=>by simp at h
 | b::B,0,_,h=>by
  have e:b=false:=h;subst e
  simp[mo]
 | b::B,i+1,h,d=>by
  have g:=Ia (B:=B) (i:=i) (by simpa using h) d;unfold mo at g ⊢;rw[mM,DW,DW];omega
def SG (n:Nat)(f:Int):k9 (replicate n false) f=false:=by
 unfold k9;by_cases h:f.toNat<n
 ·simp[List.getD,h]
 simp[List.getD,h];rfl
section
variable {vars:J}
end
section
variable {t:aa}{z V cs D:J}
def lC (o:km)(j:Nat):List bp:=o.pre++(o.aJ.getD j bE).bO
def vq (o:km)(j:Nat):bp:=⟨(o.aJ.getD j bE).var,(o.aJ.getD j bE).val⟩
def SH (I:aG t){k j:Nat}(hk:k<t.M.length)(g:j<(t.M.getD k bj).aJ.length):∀ f∈lC (t.M.getD k bj) j,bN t.vars f:=fun f b=>by
 have e:=I.op k hk;rcases gG.1 b with b|b
 ·obtain⟨i,d,rfl⟩:=fJ b
  have:=(e.pre i d).1
  rwa[am d]at this
 obtain⟨i,d,rfl⟩:=fJ b;have:=((e.ff j g).1 i d).1
 rwa[am d]at this
def LM (I:aG t){k j:Nat}(hk:k<t.M.length)(b:j<(t.M.getD k bj).aJ.length):bN t.vars (vq (t.M.getD k bj) j):=by
 have:=tO ((I.op k hk).ff j b);exact this
end
inductive sa (t:aa) (s:J) (w:bp):bp->Prop
 | st {v:Nat}:v<t.vars.length->sa t s w ⟨(v:Int),s.getD v W.dflt⟩
 | op {k j:Nat}:k<t.M.length->j<(t.M.getD k bj).aJ.length->vq (t.M.getD k bj) j≠w->(∀ f∈lC (t.M.getD k bj) j,sa t s w f)->sa t s w (vq (t.M.getD k bj) j)
def FS (t:aa)(s:J)(f:bp):Prop:=∃ g∈t.aH,¬sa t s f g
def LN (t:aa)(s:J)(f:bp)(k:Nat):Prop:=k<t.M.length/\∃ j,j<(t.M.getD k bj).aJ.length/\vq (t.M.getD k bj) j=f/\∀ n∈lC (t.M.getD k bj) j,sa t s f n
section
variable {t:aa}{s:J}{f:bp}
def SJ {x:bp}(h:jA y x):x=⟨(x.var.toNat:Int),y.getD x.var.toNat W.dflt⟩:=by
 obtain⟨b,h1,d⟩:=h;cases x;simp only at b h1 d;rw[d,gA b]
def þ (I:aG t)(L:mL t y p k):ab t.vars y->(∀ v:Nat,v<t.vars.length->sa t s f ⟨(v:Int),y.getD v W.dflt⟩)->(∃ op:Nat,(op:Int)∈p/\LN t s f op)\/∀ g∈t.aH,sa t s f g:=by
 induction L with
 | @aH y N =>
  intro h o;refine .inr fun g b=>?_;have h1:=AA N b;rw[SJ h1];have:=h1.2.1;have A:=h.1;have:=h1.1
  exact o _ U
 | @step y op p k u P _ Q =>
  intro h o;by_cases G:LN t s f op
  ·exact .inl ⟨op,gz,G⟩
  have B:=I.op op u;have A:=h.1;have b:∀ {l:List bp},cp y l->∀ x∈l,sa t s f x:=fun R x hx=>by
   have h1:=AA R hx;rw[SJ h1];have:=h1.2.1;have:=h1.1;exact o _ U
  rcases Q (uR I h u) (fun v hv=>by
   have C:v<y.length:=U;rcases LO (s:=y) (l:=(t.M.getD op bj).aJ) (fun e he=>by have:=tO (B.mem e he);rw[h.1];exact⟨this.1,this.2.1⟩) C with e|⟨j,H,S,T,e3⟩
   ·have F:(cB t y op).getD v W.dflt=y.getD v W.dflt:=e
    rw[F];exact o v hv
   have F:vq (t.M.getD op bj) j=⟨(v:Int),(cB t y op).getD v W.dflt⟩:=by
    unfold vq;rw[S,T];rfl
   have d:∀ n∈lC (t.M.getD op bj) j,sa t s f n:=fun n d=>by
    rcases gG.1 d with d|d
    ·exact b P n d
    exact b e3 n d
   rw[<-F]
   refine .op u H (fun ef=>G ⟨u,j,H,ef,d⟩) d) with ⟨q,h1,h2⟩|h1
  ·exact .inl ⟨q,iR _ h1,h2⟩
  exact .inr h1
def FS.zb (d:FS t s f)(I:aG t)(e:ab t.vars s)(h:mL t s p k):∃ op:Nat,(op:Int)∈p/\LN t s f op:=by
 obtain⟨g,h1,j⟩:=d;rcases þ (f:=f) I h e (fun v hv=>.st hv) with b|b
 ·exact b
 exact absurd (b g h1) j
def UM (I:aG t)(b:ab t.vars s)(d:∃ g∈t.aH,¬sa t s ⟨-1,-1⟩ g)(h:mL t s p k):False:=by
 obtain⟨op,_,n⟩:=FS.zb (f:=⟨-1,-1⟩) d I b h;obtain⟨o,j,q,e,_⟩:=n;have:=(LM I o q).1;rw[e]at this;exact absurd this dc
end
structure kF (t:aa) (C:List J) (v:List Rat):Prop where
 len:v.length=C.length
 nn:∀ x∈v,0<=x
 ÿ:∀ op:Nat,op<t.M.length->dx (fun i=>if (op:Int)∈C.getD i [] then v.getD i 0 else 0) C.length<=((qz t op:Int):Rat)
def LP {f g:Nat->Rat}:∀ {n:Nat},(∀ i,i<n->f i<=g i)->dx f n<=dx g n
 | 0,_=>zF
 | n+1,h=>by
  have h1:=LP (n:=n) fun i b=>h i U;have d:=h n U;show dx f n+f n<=dx g n+g n
  grind
def NI {f:Nat->Rat}:∀ {n:Nat},(∀ i,i<n->0<=f i)->0<=dx f n
 | 0,_=>zF
 | n+1,h=>by
  have h1:=NI (n:=n) fun i b=>h i U;have d:=h n U;show 0<=dx f n+f n
  grind
open Classical in
def kF.SK {t:aa}{C:List J}{v:List Rat}(h:kF t C v)(o:mL t y p k):dx (fun i=>if ∃ op:Nat,(op:Int)∈p/\(op:Int)∈C.getD i [] then v.getD i 0 else 0) C.length<=((k:Int):Rat):=by
 have hv:∀ i,i<C.length->0<=v.getD i 0:=fun i n=>by
  have d:i<v.length:=by rw[h.len];exact n
  rw[am d];exact h.nn _ (wq d)
 induction o with
 | aH _ =>
  rw[AZ (g:=fun _=>0) fun i _=>aC (by rintro⟨op,h1,_⟩;exact absurd h1 fI),SL]
  exact zF
 | @step y op p k u x _ A =>
  have h1:dx (fun i=>if ∃ q:Nat,(q:Int)∈((op:Int)::p)/\(q:Int)∈C.getD i [] then v.getD i 0 else 0) C.length<=dx (fun i=>(if (op:Int)∈C.getD i [] then v.getD i 0 else 0)+(if ∃ q:Nat,(q:Int)∈p/\(q:Int)∈C.getD i [] then v.getD i 0 else 0)) C.length:=LP fun i n=>by
   have B:=hv i n;by_cases a:(op:Int)∈C.getD i []
   ·rw[aM a,aM ⟨op,gz,a⟩]
    split<;>grind
   rw[aC a];by_cases b:∃ q:Nat,(q:Int)∈p/\(q:Int)∈C.getD i []
   ·rw[aM b]
    obtain⟨q,d,j⟩:=b;rw[aM ⟨q,iR _ d,j⟩];grind
   rw[aC b,aC]
   ·grind
   rintro⟨q,d,j⟩;rcases ee.1 d with e|d
   ·exact a (by rw[<-e];exact j)
   exact b ⟨q,d,j⟩
  rw[SM]at h1;have d:=h.ÿ op u;rw[Rat.intCast_add]
  grind
open Classical in
def kF.low {t:aa}{C:List J}{v:List Rat}(h:kF t C v)(b:mL t y p k)(d:∀ i,i<C.length->∃ op:Nat,(op:Int)∈p/\(op:Int)∈C.getD i []):dx (fun i=>v.getD i 0) C.length<=((k:Int):Rat):=by
 have h1:=h.SK b
 rwa[AZ (g:=fun i=>v.getD i 0) fun i e=>aM (d i e)]at h1
end Go.Proofs.YtmapkjoefdgjfaaGreatDoor
