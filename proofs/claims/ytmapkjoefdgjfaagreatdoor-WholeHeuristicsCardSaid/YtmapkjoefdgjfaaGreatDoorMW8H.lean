/- Several texts. -/
import Derived.Test.YtmapkjoefdgjfaaGreatDoorMW7H
set_option linter.unusedSimpArgs false
set_option linter.unusedVariables false
set_option linter.defProp false
set_option maxRecDepth 8000
set_option maxHeartbeats 16000000
open List Nat
namespace Go.Proofs.YtmapkjoefdgjfaaGreatDoor
open Go.Sl
variable {w0 w:World}{t:aa}{most n:Int}{a:Value}{k:Nat}{l L:List lW}
section
open Go.Sl Go
attribute [local irreducible] vc opsW opsD opV opW PureV ReadV Thn Blk
def OX {Γ:List HP}{B:Addr}{vv sv D u y sg:Value}{ex:Bool}{S:ct}(Y:Z w0 w (am B 164 [vv,sv,D,.bool ex]::bA (fun w=>dE w u y sg S)::Γ))(hT:nF w0)(_b:0<=S.st/\S.st<=4096) :
  Calls ak 116 #[.pointer (some B),df S u y sg,E most] w fun e w'=>∃ cv ev gv v b,e=.returned (.tuple #[df (dV S most) cv ev gv,v,bS (cK S most)])/\Z w0 w' (am B 164 [vv,sv,D,.bool b]::X W 3 v (gP S most)::bA (fun w=>dE w cv ev gv (dV S most))::Γ):=by
 have oS:=(Y.dQ 1 rfl).nG;obtain⟨n,d⟩:∃ n:Nat,S.st=(n:Int):=⟨S.st.toNat,U⟩
 refine bI ar Tryz.func116 ?_;unfold df;rw[d]at oS ⊢
 repeat (first|refine dS ?_|(refine iT ?_;clear Y;intro p w Y))
 rename_i ps ws;obtain⟨z,rfl⟩:=À p;have Y:Z w0 w (am z 142 [E 0,E 0,nS,nS,nS]::am ps 142 [E n,E S.cj,u,y,sg]::am B 164 [vv,sv,D,.bool ex]::bA (fun w=>dE w u y sg S)::Γ):=Y;refine j2 ?_ ?_<;>intro h1
 ·have R:cK S most=0:=by unfold cK;rw[d,ba h1]
  have V:gP S most=dI n:=by unfold gP;rw[d,ba h1];congr 1
  have hP:dV S most=S:=by unfold dV;rw[d,ba h1]
  rw[R,V,hP];refine O ?_;refine gi (pl [0,1,2,3] (.cY 0::pl [4,5,6] [])) Y kr ?_;clear Y;intro w Y;refine O ?_;refine aR rfl (Q7 (n:=n) U) ?_;rintro _ w' ⟨v,rfl,aw⟩;refine aO ?_;clear aw Y;intro Y;refine jD ?_;intro w Y;exact Jt (p:=z) (vs:=[E n,E S.cj,u,y,sg]) rfl rfl (v':=v) rfl (v2:=.nilIface) rfl rfl (fun j v hv=>nw (i:=1) Y rfl hv) ⟨u,y,sg,v,ex,by rw[d,ff rfl],Y.cu⟩
 have q:¬S.st<=most:=U;have _c:¬(n:Int)<=most:=U;refine O ?_;refine aR rfl (by have:=Ĝ (S:=S) (most:=most) (Y.dQ 3 rfl) (hT.at Y);unfold df at this;rw[d]at this;exact this) ?_;rintro _ w' ⟨r,rfl,P',aw⟩;refine aO ?_;clear aw Y;intro Y;by_cases hv:jY S=true
 case neg =>
  have b:¬cW S:=fun h=>hv (Cx h);have R:cK S most=2:=by unfold cK;rw[aM q,aM b]
  have V:gP S most=[]:=by unfold gP;rw[aM q,aM b]
  have hP:dV S most=cT:=by unfold dV;rw[aM q,aM b]
  have hD:jI S=2:=by unfold jI;rw[aM hv]
  rw[R,V,hP,hD,c9 dc];refine O ?_;refine mq (parts:=[]) (vs:=[]) rfl rfl rfl ?_;refine jD ?_;intro w Y;refine Jt (p:=z) (vs:=[E 0,E 0,nS,nS,nS]) rfl rfl (v':=nS) rfl (v2:=.iface 57 (E 2)) rfl rfl (fun j v hv=>nw (i:=1) Y rfl hv) ⟨nS,nS,nS,nS,ex,rfl,?_⟩;have h1:Z w0 _ (bA (fun w=>dE w (nS) (nS) (nS) cT)::_):=Z.r6 (fun w=>⟨RS.nil,RS.nil,RS.nil⟩) (Y.nil (T:=W) (e:=3));exact h1.cu
 have b:cW S:=oE fun h=>by rw[xP h]at hv;cases hv
 have R:cK S most=eU S (iy S most):=by unfold cK;rw[aM q,ba b]
 have V:gP S most=iy S most:=by unfold gP;rw[aM q,ba b]
 have hP:dV S most=jK S (iy S most):=by unfold dV;rw[aM q,ba b]
 have hD:jI S=0:=by unfold jI;rw[ba hv]
 have hR:vK S most=iy S most:=by unfold vK;rw[ba hv]
 obtain⟨G,j'⟩:=P' hv;rw[R,V,hP,hD,ff rfl];rw[hR]at Y;refine O ?_;refine aR rfl (by have:=Tv (S:=S) (Y.dQ 4 rfl) (hT.at Y);unfold df at this;rw[d]at this;exact this) ?_;rintro _ w' ⟨fv,rfl,R',aw⟩;refine aO ?_;clear aw Y;intro Y;rw[hD,ff rfl];have T':tb S=oI S:=by unfold tb;rw[ba hv]
 rw[T']at Y;obtain⟨L,_d,H'⟩:=R' hv;have a1:1<=S.st:=b.1;have H:0<(oI S).length:=by rw[H',Au];omega
 have J':∀ x∈oI S,0<=x/\x<=65536:=fun x hx=>by
  rw[H']at hx;obtain⟨i,g,rfl⟩:=ga hx;have h1:=Er (l:=L) (i:=i) (by rw[Au]at g;exact g);rw[aq g]at h1;have:=BC L;omega
 obtain⟨C,V'⟩:=À (iy S most);obtain⟨F,_a⟩:=À (oI S);rw[<-V']at G j' Y ⊢;rw[<-_a]at H J' Y;have _e:=j' _ (Jd G);have _f:=J' _ (Jd H)
 cases ex with
 | false =>
  refine jD ?_;intro w Y;simp only[mY,lO]at Y;obtain⟨A,Y⟩:∃ A,Z w0 _ (X W 3 fv F::X W 3 r C::am z 142 [E 0,E 0,nS,nS,nS]::am ps 142 [E n,E S.cj,u,y,sg]::am B 164 [vv,sv,D,.bool A]::bA (fun w=>dE w u y sg S)::Γ):=⟨_,Y⟩
  refine aR rfl (by have:=TO (S:=S) (c:=C) (Y.dQ 5 rfl) b (bB (s:=r) Y);unfold df at this;rw[d]at this;exact this) ?_;rintro _ w' ⟨g,m,o,rfl,aw⟩;refine rm ?_;clear aw Y;intro Y;obtain⟨ev,K⟩:=À (bS (eU S C));obtain⟨Q,hQ⟩:=À (jK S C);rw[<-K,<-hQ];rw[<-hQ]at Y;simp only[uR,lQ]at Y;have o1:=(bB (s:=g) Y).one;have o2:=(bB (s:=m) Y).one;have o3:=(bB (s:=o) Y).one;refine dj ?_;intro p w Y;refine lm (n:=5) (p:=p) (vs:=[E Q.st,E Q.cj,g,m,o]) rfl rfl Y inferInstance rfl rfl (by simp only[fo,fB,o1,o2,o3];rfl) ?_;clear Y;intro w Y;refine O ?_;refine lm (n:=5) (p:=z) (vs:=[E Q.st,E Q.cj,g,m,o]) rfl rfl Y inferInstance rfl rfl (by simp only[fo,fB,o1,o2,o3];rfl) ?_;clear Y;intro w Y;refine O ?_;refine Jt (p:=z) (vs:=[E Q.st,E Q.cj,g,m,o]) rfl rfl (v':=r) rfl (v2:=ev) rfl rfl (fun j v hv=>nw (i:=6) Y rfl hv) ⟨g,m,o,r,A,rfl,?_⟩;have N:Z w0 w (X W 3 g Q.aN::X aV 190 m Q.aH::X ah 4 o Q.aW::am B 164 [vv,sv,D,.bool A]::X W 3 r C::Γ):=Y.cu;have h3:=Z.rd (Δ:=[_,_,_]) (φ:=fun w=>dE w g m o Q) (fun _ _ h=>⟨h.rs 0 rfl,h.rs 1 rfl,h.rs 2 rfl⟩) N
  exact h3.cu
 | true =>
  refine O ?_;refine aR rfl (T6 (l:=C) (bB (s:=r) Y) G U) ?_;refine iw ?_;intro w' Y;refine aR rfl (T6 (l:=F) (bB (s:=fv) Y) H U) ?_;refine xu ?_;intro w Y;simp only[mY,lO]at Y;obtain⟨A,Y⟩:∃ A,Z w0 _ (X W 3 fv F::X W 3 r C::am z 142 [E 0,E 0,nS,nS,nS]::am ps 142 [E n,E S.cj,u,y,sg]::am B 164 [vv,sv,D,.bool A]::bA (fun w=>dE w u y sg S)::Γ):=⟨_,Y⟩
  refine aR rfl (by have:=TO (S:=S) (c:=C) (Y.dQ 5 rfl) b (bB (s:=r) Y);unfold df at this;rw[d]at this;exact this) ?_;rintro _ w' ⟨g,m,o,rfl,aw⟩;refine rm ?_;clear aw Y;intro Y;obtain⟨ev,K⟩:=À (bS (eU S C));obtain⟨Q,hQ⟩:=À (jK S C);rw[<-K,<-hQ];rw[<-hQ]at Y;simp only[uR,lQ]at Y;have o1:=(bB (s:=g) Y).one;have o2:=(bB (s:=m) Y).one;have o3:=(bB (s:=o) Y).one;refine dj ?_;intro p w Y;refine lm (n:=5) (p:=p) (vs:=[E Q.st,E Q.cj,g,m,o]) rfl rfl Y inferInstance rfl rfl (by simp only[fo,fB,o1,o2,o3];rfl) ?_;clear Y;intro w Y;refine O ?_;refine lm (n:=5) (p:=z) (vs:=[E Q.st,E Q.cj,g,m,o]) rfl rfl Y inferInstance rfl rfl (by simp only[fo,fB,o1,o2,o3];rfl) ?_;clear Y;intro w Y;refine O ?_;refine Jt (p:=z) (vs:=[E Q.st,E Q.cj,g,m,o]) rfl rfl (v':=r) rfl (v2:=ev) rfl rfl (fun j v hv=>nw (i:=6) Y rfl hv) ⟨g,m,o,r,A,rfl,?_⟩;have N:Z w0 w (X W 3 g Q.aN::X aV 190 m Q.aH::X ah 4 o Q.aW::am B 164 [vv,sv,D,.bool A]::X W 3 r C::Γ):=Y.cu;have h3:=Z.rd (Δ:=[_,_,_]) (φ:=fun w=>dE w g m o Q) (fun _ _ h=>⟨h.rs 0 rfl,h.rs 1 rfl,h.rs 2 rfl⟩) N;exact h3.cu
end
section
open Go.Sl
def Ww {c:J}{k:Int}(h:gK c n k)(b:1<=n):1<=k:=by
 obtain⟨h1,d,e,_⟩:=h;have hm:c.getD 0 W.dflt∈c:=cS W.dflt U
 grind
open Classical in
def Xa {c:J}(h:mG c n=true):0<=nJ c n/\gK c n (nJ c n):=by
 unfold mG at h;rw[jV]at h;unfold nJ
 grind
structure Pq (S:ct) (C:J) (S':ct):Prop where
 len:(C.length:Int)=S.st
 et:∀ i:Nat,i<C.length->0<=C.getD i W.dflt/\C.getD i W.dflt<S'.st
 sh:1<=S'.st
 ua:S'.st<=S.st
def y8 {S:ct}(h1:1<=S.st)(c:cK S most=0):Pq S (gP S most) (dV S most):=by
 by_cases hm:S.st<=most
 ·have d:gP S most=dI S.st.toNat:=by unfold gP;rw[ba hm]
  have e:dV S most=S:=by unfold dV;rw[ba hm]
  rw[d,e];have b:(dI S.st.toNat).length=S.st.toNat:=by simp[dI]
  refine⟨U,fun i f=>?_,h1,iq _⟩;have:(dI S.st.toNat).getD i W.dflt=(i:Int):=by
   rw[b]at f;simp[dI,List.getD,f]
  omega
 by_cases hv:cW S
 ·have d:gP S most=iy S most:=by unfold gP;rw[aM hm,ba hv]
  have e:dV S most=jK S (iy S most):=by unfold dV;rw[aM hm,ba hv]
  have b:eU S (iy S most)=0:=by unfold cK at c;rwa[aM hm,ba hv]at c
  rw[d,e];have g:mG (iy S most) S.st=true:=by
   unfold eU at b;by_cases h:jY S=true/\mG (iy S most) S.st=true
   ·exact h.2
   grind
  obtain⟨q,j⟩:=Xa g;have m:(jK S (iy S most)).st=nJ (iy S most) S.st:=by unfold jK;rw[ba b]
  have o:=Ww j h1;obtain⟨c1,c2,r,u⟩:=j;refine⟨c1,fun i f=>?_,U,?_⟩
  ·simp_all
  grind
 unfold cK at c
 grind
def Xi {v:Nat}(I:aJ t)(hv:v<t.vars.length):(dY t [(v:Int)]).st=t.vars.getD v W.dflt:=by
 show bG t.vars [(v:Int)]=_;simp[bG,gJ,cZ,sg,List.getD,hv,W]
inductive Ch (vars:J):List lW->Int->Prop
 | one (x:lW):x.var=0->((x.eP.length:Int)=vars.getD 0 W.dflt)->(∀ i:Nat,i<x.eP.length->0<=x.eP.getD i W.dflt/\x.eP.getD i W.dflt<x.fp)->0<vars.length->Ch vars [x] x.fp
 | gD (l:List lW) (n m:Int) (y:lW):Ch vars l n->y.var=(l.length:Int)->((y.eP.length:Int)=vars.getD l.length W.dflt)->(∀ i:Nat,i<y.eP.length->0<=y.eP.getD i W.dflt/\y.eP.getD i W.dflt<y.fp)->l.length<vars.length ->
   ((y.qI.length:Int)=n)->(∀ i:Nat,i<y.qI.length->0<=y.qI.getD i W.dflt/\y.qI.getD i W.dflt<m)->m*y.fp<=4096->Ch vars (l++[y]) (m*y.fp)
def OW {s:J}{y:lW}(h:l≠[]):qH s (l++[y])=y.qI.getD (qH s l).toNat W.dflt*y.fp+y.eP.getD (s.getD y.var.toNat W.dflt).toNat W.dflt:=by
 cases l with
 | nil=>grind
 | cons x r=>simp only[qH,uR,u0,xe,foldl_nil]
def Ch.ne {vars:J}(h:Ch vars l n):l≠[]:=by cases h<;>simp
def Ch.at {vars s:J}(b:aj vars s){l:List lW}{n:Int}(h:Ch vars l n):0<=qH s l/\qH s l<n:=by
 induction h with
 | one x hv j g c =>
  have e:qH s [x]=x.eP.getD (s.getD x.var.toNat W.dflt).toNat W.dflt:=rfl;rw[e];have o:=b.2 0 (by rw[b.1];exact c)
  grind
 | gD l n m y h hv j g c A d hm B =>
  rw[OW h.ne];have o:=b.2 l.length (by rw[b.1];exact c);rw[hv];have q:=g (s.getD l.length W.dflt).toNat U;have f:=d (qH s l).toNat U;rw[show ((l.length:Nat):Int).toNat=l.length from by omega];obtain⟨r,c1⟩:=q;obtain⟨i,z⟩:=f;generalize y.eP.getD (s.getD l.length W.dflt).toNat W.dflt=u at r c1 ⊢;generalize y.qI.getD (qH s l).toNat W.dflt=v at i z ⊢;have h1:0<=v*y.fp:=vX i U;have C:(v+1)*y.fp<=m*y.fp:=zF U U
  grind
noncomputable def pF (t:aa)(most:Int)(k:Nat):EG:=if k=0 then ⟨cT,[],0⟩ else kb t most k
def OY (t:aa)(most:Int):pF t most 1=nZ t most 0:=rfl
def OZ (hk:0<k):pF t most (k+1)=n0 t most (pF t most k) k:=by
 obtain⟨j,rfl⟩:∃ j,k=j+1:=⟨k-1,U⟩
 rfl
def O0 (hk:0<k)(he:(pF t most k).vg≠0):∀ m,k<=m->pF t most m=pF t most k:=by
 intro m hm
 induction m with
 | zero=>omega
 | succ m b =>
  by_cases e:k=m+1
  ·rw[e]
  have h1:=b U;rw[OZ U,h1];unfold n0
  grind
end
section
open Go.Sl Go
attribute [local irreducible] vc opsW opsD opV opW PureV ReadV Thn Blk
def qvP {b c d:Value}{vs:List kq}{v:Int}(m:bR w0 a b c d vs t) :
  Calls ak 115 #[.agg #[a,b,c,d],E v] w0 fun e w'=>∃ cv ev gv,e=.returned (.tuple #[df (kQ t [v] (dh t [v])) cv ev gv,bS (dh t [v])])/\uA w0 w' cv ev gv (kQ t [v] (dh t [v])):=by
 have Y:=Z.start w0;refine bI ar Tryz.func115 ?_
 repeat (first|refine dS ?_|(refine iT ?_;clear Y;intro p w Y)|(refine gA ?_;clear Y;intro s w Y))
 obtain⟨g,rfl⟩:=À p;refine aR rfl (HN (m.at Y) (Y.rs 0 rfl)) ?_;rintro _ w' ⟨cv,ev,gv,rfl,aw⟩;refine rm ?_;clear aw Y;intro Y;simp only[uR,lQ]at Y;obtain⟨o,f⟩:=À (bS (dh t [v]));obtain⟨S,h⟩:=À (kQ t [v] (dh t [v]));rw[<-f,<-h];rw[<-h]at Y;have q:=(bB (s:=cv) Y).one;have r:=(bB (s:=ev) Y).one;have u:=(bB (s:=gv) Y).one;unfold df;refine O ?_;refine lm (n:=5) (p:=g) (vs:=[E S.st,E S.cj,cv,ev,gv]) rfl rfl Y inferInstance rfl rfl (by simp only[fo,fB,q,r,u];rfl) ?_;clear Y;intro w Y;refine O ?_;refine jF (p:=g) (vs:=[E S.st,E S.cj,cv,ev,gv]) rfl rfl (v':=o) rfl rfl (fun j v hv=>nw (i:=4) Y rfl hv) ⟨cv,ev,gv,rfl,?_⟩;exact Y.bj
structure yJ where
 var:Int
 eP:Value
 qI:Value
 fp:Int
def gd:Ty yJ:=⟨4,fun x=>[E x.var,x.eP,x.qI,E x.fp],fun _=>rfl,⟨0,nS,nS,0⟩⟩
structure lR (ms:List yJ) (L:List lW) (w:World):Prop where
 len:ms.length=L.length
 var:∀ i,i<L.length->(ms.getD i gd.dflt).var=(L.getD i ⟨0,[],[],0⟩).var
 fp:∀ i,i<L.length->(ms.getD i gd.dflt).fp=(L.getD i ⟨0,[],[],0⟩).fp
 eP:∀ i,i<L.length->RS W w (ms.getD i gd.dflt).eP (L.getD i ⟨0,[],[],0⟩).eP
 qI:∀ i,i<L.length->RS W w (ms.getD i gd.dflt).qI (L.getD i ⟨0,[],[],0⟩).qI
def Ki {α:Type}{l:List α}{x d:α}{i:Nat}:(l++[x]).getD i d=if i<l.length then l.getD i d else if i=l.length then x else d:=by
 by_cases h:i<l.length
 ·rw[ba h];simp[List.getD,mu h]
 rw[aM h];by_cases e:i=l.length
 ·rw[ba e];subst e;simp[List.getD]
 rw[aM e];simp[List.getD,lP (yi.1 h),xS (show [x].length<=i-l.length by simp;omega)]
def lR.gD {ms:List yJ}{m:yJ}{y:lW}(h:lR ms L w)(h1:m.var=y.var)(h2:m.fp=y.fp)(f:RS W w m.eP y.eP)(g:RS W w m.qI y.qI):lR (ms++[m]) (L++[y]) w:=by
 have c:=h.len
 refine⟨by rw[length_append,length_append,c];rfl,fun i b=>?_,fun i b=>?_,fun i b=>?_,fun i b=>?_⟩ <;>
 ·rw[length_append,w7]at b
  rw[Ki,Ki,c];by_cases e:i<L.length
  ·rw[ba e,ba e]
   first|exact h.var i e|exact h.fp i e|exact h.eP i e|exact h.qI i e
  have d:i=L.length:=U;rw[aM e,aM e,ba d,ba d]
  first|exact h1|exact h2|exact f|exact g
def lR.nil:lR [] [] w:=⟨rfl,fun _ h=>by simp at h,fun _ h=>by simp at h,fun _ h=>by simp at h,fun _ h=>by simp at h⟩
def qv8 {n:Nat}(h:k<n):(dI n).getD k W.dflt=(k:Int):=by simp[dI,List.getD,h]
structure Xj (t:aa) (X':EG) (k:Nat):Prop where
 sh:1<=X'.eY.st
 ua:X'.eY.st<=4096
 ch:Ch t.vars X'.fp X'.eY.st
 len:X'.fp.length=k
def YN {Γ:List HP}{D:Addr}{vv H b c d ov:Value}{j':Bool}{vs:List kq}{M':Nat}(Y:Z w0 w (am D 164 [vv,nS,H,.bool j']::Γ))(hT:nF w0)(I:aJ t)(ht:bR w0 a b c d vs t)(ho:RS W w0 ov (dI t.vars.length))(_v:1<=M')(_w:M'<=4096) :
  Calls ak 90 #[.pointer (some D),.agg #[a,b,c,d],ov,E M'] w fun e w'=>∃ cv ev gv sv ms ex,e=.returned (.tuple #[df (kb t M' t.vars.length).eY cv ev gv,bS (kb t M' t.vars.length).vg])/\((kb t M' t.vars.length).vg=0->0<t.vars.length->Xj t (kb t M' t.vars.length) t.vars.length) /\
   Z w0 w' (am D 164 [vv,sv,H,.bool ex]::X gd 201 sv ms::bA (lR ms (kb t M' t.vars.length).fp)::bA (fun w=>dE w cv ev gv (kb t M' t.vars.length).eY)::Γ):=by
 obtain⟨n,hn⟩:=À t.vars.length;have _q:=I.vars;rw[<-hn]at ho _q ⊢;have _x:(dI n).length=n:=DO n;refine bI ar Tryz.func90 ?_
 repeat (first|refine dS ?_|(refine iT ?_;clear Y;intro p w Y))
 rename_i pt wt;obtain⟨r,rfl⟩:=À p;have Y:Z w0 w (am r 142 [E 0,E 0,nS,nS,nS]::am pt 26 [a,b,c,d]::am D 164 [vv,nS,H,.bool j']::Γ):=Y;have Y:Z w0 w (am r 142 [E 0,E 0,nS,nS,nS]::am pt 26 [a,b,c,d]::am D 164 [vv,nS,H,.bool j']::Γ):=Y;refine j2 ?_ ?_<;>intro h1
 ·have m:n=0:=U
  have f:kb t M' n=⟨kQ t [] (dh t []),[],dh t []⟩:=by rw[m];rfl
  rw[f];refine O ?_;refine aR rfl (HN (L:=[]) (ht.at Y) RS.nil) ?_;rintro _ w' ⟨cv,ev,gv,rfl,aw⟩;refine rm ?_;clear aw Y;intro Y;simp only[uR,lQ]at Y;obtain⟨er,N⟩:=À (bS (dh t []));obtain⟨S,hS⟩:=À (kQ t [] (dh t []));rw[<-N,<-hS];rw[<-hS]at Y;have o1:=(bB (s:=cv) Y).one;have o2:=(bB (s:=ev) Y).one;have o3:=(bB (s:=gv) Y).one;unfold df;refine O ?_;refine lm (n:=5) (p:=r) (vs:=[E S.st,E S.cj,cv,ev,gv]) rfl rfl Y inferInstance rfl rfl (by simp only[fo,fB,o1,o2,o3];rfl) ?_;clear Y;intro w Y;refine O ?_;refine jF (p:=r) (vs:=[E S.st,E S.cj,cv,ev,gv]) rfl rfl (v':=er) rfl rfl (fun j v hv=>nw (i:=3) Y rfl hv) ⟨cv,ev,gv,nS,[],j',rfl,fun _ h=>absurd h U,?_⟩;have h2:Z w0 w (X W 3 cv S.aN::X aV 190 ev S.aH::X ah 4 gv S.aW::am D 164 [vv,nS,H,.bool j']::Γ):=Y.cu;have h3:=Z.rd (Δ:=[_,_,_]) (φ:=fun w=>dE w cv ev gv S) (fun _ _ h=>⟨h.rs 0 rfl,h.rs 1 rfl,h.rs 2 rfl⟩) h2;have o:Z w0 w (bA (lR [] [])::_):=Z.r6 (fun w=>lR.nil) h3;have q:=o.nil (T:=gd) (e:=201);exact q.cu
 refine O ?_;have _y:0<n:=U;refine aR rfl (ϥ (n:=(M':Int)) U U) ?_;refine AN ?_;intro p w Y;obtain⟨pc,rfl⟩:=À p;have _l:Z w0 w (am pc 142 [E (pF t M' 0).eY.st,E (pF t M' 0).eY.cj,nS,nS,nS]::am D 164 [vv,nS,H,.bool j']::X gd 201 (nS) []::bA (lR [] (pF t M' 0).fp)::bA (fun w=>dE w (nS) (nS) (nS) (pF t M' 0).eY)::am r 142 [E 0,E 0,nS,nS,nS]::am pt 26 [a,b,c,d]::Γ):=by
  have f:Z w0 w (bA (fun w=>dE w (nS) (nS) (nS) cT)::_):=Z.r6 (fun w=>⟨RS.nil,RS.nil,RS.nil⟩) Y;have a2:Z w0 w (bA (lR [] [])::_):=Z.r6 (fun w=>lR.nil) f;have a3:=a2.nil (T:=gd) (e:=201);have a4:Z w0 w (am pc 142 [E 0,E 0,nS,nS,nS]::am D 164 [vv,nS,H,.bool j']::X gd 201 (nS) []::bA (lR [] [])::bA (fun w=>dE w (nS) (nS) (nS) cT)::am r 142 [E 0,E 0,nS,nS,nS]::am pt 26 [a,b,c,d]::Γ):=a3.cu;exact a4
 refine de [9,9,12,18,30,153] (G:=Nat) (fun k=>[(30,E k)]) (fun k w=>k<=n/\(pF t M' k).vg=0/\(0<k->Xj t (pF t M' k) k)/\∃ sv ms ex cc ce cg,Z w0 w (am pc 142 [E (pF t M' k).eY.st,E (pF t M' k).eY.cj,cc,ce,cg]::am D 164 [vv,sv,H,.bool ex]::X gd 201 sv ms::bA (lR ms (pF t M' k).fp)::bA (fun w=>dE w cc ce cg (pF t M' k).eY)::am r 142 [E 0,E 0,nS,nS,nS]::am pt 26 [a,b,c,d]::Γ)) (fun k=>n-k) 0 (fun _=>rfl) ⟨rfl,az⟩ ⟨bC _,rfl,fun h=>absurd h U,_,_,_,_,_,_,_l⟩ ?_;clear Y _l;rintro _ k w ⟨_z,_b,_g,sv,ms,ex,cc,ce,cg,Y⟩;obtain⟨f,hX⟩:=À (pF t M' k);rw[<-hX]at _b _g Y;refine aC ?_ ?_<;>intro h2;rotate_left
 ·have hk:k=n:=U
  have o:kb t M' n=f:=by rw[hX,hk];unfold pF;rw[aM U]
  rw[o,_b];have o1:=(Y.dQ 4 rfl).nG;refine jD ?_;intro w Y;exact jF (p:=r) (vs:=[E f.eY.st,E f.eY.cj,cc,ce,cg]) rfl rfl (v':=bS 0) (by rw[ff rfl];rfl) rfl (fun j v hv=>nw (i:=5) Y rfl hv) ⟨cc,ce,cg,sv,ms,ex,rfl,fun _ _=>by rw[<-hk];exact _g U,Y.cu⟩
 have _r:k<n:=U;have H':∀ LL Q,Q≠0->pF t M' (k+1)=⟨cT,LL,Q⟩->kb t M' n=⟨cT,LL,Q⟩:=fun LL Q h1 h2=>by
  rw[<-h2,<-O0 (Fz k) (by rw[h2];exact h1) n U];unfold pF;rw[aM U]
 have _s:=qv8 _r;refine O ?_;rw[_s];refine O ?_;refine aR rfl (qvP (v:=(k:Int)) (ht.at Y)) ?_;rintro _ w' ⟨R,V,ag,rfl,aw⟩;refine rm ?_;clear aw Y;intro Y;by_cases he:dh t [(k:Int)]=0;rotate_left
 ·have z:pF t M' (k+1)=⟨cT,f.fp,dh t [(k:Int)]⟩:=by
   rcases wg k with m|m
   ·subst m
    rw[OY,hX];unfold nZ;rw[ba (by simpa using he)];rfl
   rw[OZ m,<-hX];unfold n0;rw[aM (by rw[_b];exact fun h=>h rfl),ba he]
  have m:kb t M' n=⟨cT,f.fp,dh t [(k:Int)]⟩:=by
   rw[<-z,<-O0 (Fz k) (by rw[z];exact he) n U];unfold pF;rw[aM U]
  have hA:kQ t [(k:Int)] (dh t [(k:Int)])=cT:=by unfold kQ;rw[aM he]
  rw[hA]at Y ⊢;obtain⟨Q,q⟩:=À (dh t [(k:Int)]);obtain⟨LL,y⟩:=À f.fp;rw[<-q]at he m ⊢;rw[<-y]at Y m;have o:=he;rw[c9 he];simp only[uR,lQ]at Y;have o1:=(bB (s:=R) Y).one;have o2:=(bB (s:=V) Y).one;have o3:=(bB (s:=ag) Y).one;unfold df;refine dj ?_;intro p w Y;refine lm (n:=5) (p:=p) (vs:=[E cT.st,E cT.cj,R,V,ag]) rfl rfl Y inferInstance rfl rfl (by simp only[fo,fB,o1,o2,o3];rfl) ?_;clear Y;intro w Y;refine O ?_;rw[m];have Y:Z w0 w (am r 142 [E 0,E 0,nS,nS,nS]::am D 164 [vv,sv,H,.bool ex]::X gd 201 sv ms::bA (lR ms LL)::Γ):=Y.cu;refine mq (parts:=[]) (vs:=[]) rfl rfl rfl ?_;refine jD ?_;intro w Y;refine jF (p:=r) (vs:=[E 0,E 0,nS,nS,nS]) rfl rfl (v':=bS Q) (by rw[c9 o];rfl) rfl (fun j v hv=>nw (i:=0) Y rfl hv) ⟨nS,nS,nS,sv,ms,ex,rfl,fun h=>absurd h o,?_⟩;have h9:Z w0 _ (bA (fun w=>dE w (nS) (nS) (nS) cT)::_):=Z.r6 (fun w=>⟨RS.nil,RS.nil,RS.nil⟩) Y;exact h9.cu
 rw[ff he];have hA:kQ t [(k:Int)] (dh t [(k:Int)])=dY t [(k:Int)]:=by rw[he];rfl
 have J':1<=(dY t [(k:Int)]).st/\(dY t [(k:Int)]).st<=4096:=by
  rw[Xi I U];have:=I.pC k U;omega
 have _h:=Xi (v:=k) I U;rw[hA]at Y ⊢;obtain⟨A,_c⟩:=À (dY t [(k:Int)]);rw[<-_c]at J' _h Y ⊢;simp only[uR,lQ]at Y;have o1:=(bB (s:=R) Y).one;have o2:=(bB (s:=V) Y).one;have o3:=(bB (s:=ag) Y).one;unfold df;refine dj ?_;intro p w Y;refine lm (n:=5) (p:=p) (vs:=[E A.st,E A.cj,R,V,ag]) rfl rfl Y inferInstance rfl rfl (by simp only[fo,fB,o1,o2,o3];rfl) ?_;clear Y;intro w Y;obtain⟨R',rfl⟩:=À p;refine dj ?_;intro pg w Y;have Y:Z w0 w (am pg 201 [E k,nS,nS,E 0]::am R' 142 [E A.st,E A.cj,R,V,ag]::X W 3 R A.aN::X aV 190 V A.aH::X ah 4 ag A.aW::am pc 142 [E f.eY.st,E f.eY.cj,cc,ce,cg]::am D 164 [vv,sv,H,.bool ex]::X gd 201 sv ms::bA (lR ms f.fp)::bA (fun w=>dE w cc ce cg f.eY)::am r 142 [E 0,E 0,nS,nS,nS]::am pt 26 [a,b,c,d]::Γ):=Y;have Y:Z w0 w (X W 3 R A.aN::X aV 190 V A.aH::X ah 4 ag A.aW::am D 164 [vv,sv,H,.bool ex]::am pg 201 [E k,nS,nS,E 0]::am R' 142 [E A.st,E A.cj,R,V,ag]::am pc 142 [E f.eY.st,E f.eY.cj,cc,ce,cg]::X gd 201 sv ms::bA (lR ms f.fp)::bA (fun w=>dE w cc ce cg f.eY)::am r 142 [E 0,E 0,nS,nS,nS]::am pt 26 [a,b,c,d]::Γ):=Y.cu;have Y:=Z.rd (Δ:=[_,_,_]) (φ:=fun w=>dE w R V ag A) (fun _ _ h=>⟨h.rs 0 rfl,h.rs 1 rfl,h.rs 2 rfl⟩) Y;have oA:=(Y.dQ 0 rfl).nG;refine j2 ?_ ?_<;>intro h3
 ·have P:k=0:=U
  have P':f=⟨cT,[],0⟩:=by rw[hX,P];rfl
  refine O ?_;have T':Z w0 w (am D 164 [vv,sv,H,.bool ex]::bA (fun w=>dE w R V ag A)::am pg 201 [E k,nS,nS,E 0]::am R' 142 [E A.st,E A.cj,R,V,ag]::am pc 142 [E f.eY.st,E f.eY.cj,cc,ce,cg]::X gd 201 sv ms::bA (lR ms f.fp)::bA (fun w=>dE w cc ce cg f.eY)::am r 142 [E 0,E 0,nS,nS,nS]::am pt 26 [a,b,c,d]::Γ):=Y.cu;refine aR rfl (OX (S:=A) (most:=(M':Int)) T' hT ⟨U,J'.2⟩) ?_;clear Y T';rintro _ w ⟨yv,ye,yg,qv,ex,rfl,Y⟩;refine⟨_,rfl,?_⟩;obtain⟨er,N⟩:=À (cK A (M':Int));obtain⟨S,hS⟩:=À (dV A (M':Int));obtain⟨C,hC⟩:=À (gP A (M':Int));rw[<-N];rw[<-hS,<-hC]at Y;rw[<-hS];have oS:=(Y.dQ 2 rfl).nG;unfold df;by_cases u:er=0;rotate_left
  ·have m:kb t M' n=⟨cT,f.fp,er⟩:=by
    have z:pF t M' (k+1)=⟨cT,f.fp,er⟩:=by
     subst P;rw[OY,P'];unfold nZ;have e1:dh t [(0:Int)]=0:=by simpa using he
     have e2:dY t [(0:Int)]=A:=by rw[_c];rfl
     rw[aM (fun h=>h e1),e2,<-N,ba u]
    rw[<-z,<-O0 (Fz k) (by rw[z];exact u) n U];unfold pF;rw[aM U]
   have o:er≠0:=u;obtain⟨Q,q⟩:=À er;obtain⟨LL,y⟩:=À f.fp;rw[<-q]at m o ⊢;rw[<-y]at Y m;rw[c9 o];refine jD ?_;intro w Y;rw[m];have Y:Z w0 w (am r 142 [E 0,E 0,nS,nS,nS]::am D 164 [vv,sv,H,.bool ex]::X gd 201 sv ms::bA (lR ms LL)::Γ):=Y.cu;refine mq (parts:=[]) (vs:=[]) rfl rfl rfl ?_;refine jD ?_;intro w Y;refine jF (p:=r) (vs:=[E 0,E 0,nS,nS,nS]) rfl rfl (v':=bS Q) (by rw[c9 o];rfl) rfl (fun j v hv=>nw (i:=0) Y rfl hv) ⟨nS,nS,nS,sv,ms,ex,rfl,fun h=>absurd h o,?_⟩;have h9:Z w0 _ (bA (fun w=>dE w (nS) (nS) (nS) cT)::_):=Z.r6 (fun w=>⟨RS.nil,RS.nil,RS.nil⟩) Y;exact h9.cu
  rw[ff u];refine jD ?_;intro w Y;simp only[mY,lO]at Y;refine gi (pl [0,1,2,3,4,5,6] (.cY 4::pl [7,8,9,10] [])) Y kr ?_;clear Y;intro w Y;refine O ?_;refine jA gd (x1:=⟨(k:Int),qv,nS,S.st⟩) rfl rfl rfl (fP rfl) (fg _) Y ?_;clear Y;intro s2 w Y;refine O ?_;have _d:=(Y.dQ 8 rfl).len;rw[P']at _d;have _d:ms.length=0:=_d;have oq:=(bB (s:=qv) Y).one;have _i:=oq;refine sF (T:=gd) (sz:=4) (by_:=64) (e:=201) (zs:=[E 0,nS,nS,E 0]) (s:=sv) (s2:=s2) (xs:=ms) (ys:=[⟨(k:Int),qv,nS,S.st⟩]) inferInstance rfl rfl (bB Y) rfl rfl (fun x hx v hv=>by rw[fU.1 hx]at hv;simp only[gd,gT,jd,pQ]at hv;rcases hv with rfl|rfl|rfl|rfl<;>first|rfl|exact oq|exact _i) (by simp only[length_cons,length_nil];omega) (by unfold cn;simp only[length_cons,length_nil];omega) Y ?_;clear Y;intro s3 w Y;refine jD ?_;intro w Y;simp only[mY,lO]at Y;have z:=y8 J'.1 (N.symm.trans u);rw[<-hS,<-hC]at z;have K:pF t M' (k+1)=⟨S,f.fp++[⟨(k:Int),C,[],S.st⟩],0⟩:=by
   have e0:(k:Int)=0:=U;have e1:dh t [(0:Int)]=0:=by have h:=he;rw[e0]at h;exact h
   have e2:dY t [(0:Int)]=A:=by rw[_c,e0]
   rw[P',P,OY];unfold nZ;rw[aM (fun h=>h e1),e2,<-N,aM (fun h=>h u),<-hS,<-hC];rfl
  refine⟨k+1,⟨rfl,az⟩,aX,⟨U,by rw[K],fun _=>?_,s3,ms++[⟨(k:Int),qv,nS,S.st⟩],ex,yv,ye,yg,?_⟩,U⟩
  ·rw[K]
   exact⟨z.sh,uJ z.ua J'.2,by rw[P'];exact Ch.one ⟨(k:Int),C,[],S.st⟩ (by show (k:Int)=0;omega) (by show (C.length:Int)=_;rw[z.len,_h,P]) z.et U,by rw[P',P];rfl⟩
  rw[K];have Y:Z w0 w (X W 3 qv C::bA (lR ms f.fp)::am pc 142 [E S.st,E S.cj,yv,ye,yg]::am D 164 [vv,s3,H,.bool ex]::X gd 201 s3 (ms++[⟨(k:Int),qv,nS,S.st⟩])::bA (fun w=>dE w yv ye yg S)::am r 142 [E 0,E 0,nS,nS,nS]::am pt 26 [a,b,c,d]::Γ):=Y.cu;have h2:Z w0 w (bA (lR (ms++[⟨(k:Int),qv,nS,S.st⟩]) (f.fp++[⟨(k:Int),C,[],S.st⟩]))::_):=Z.rd (Δ:=[_,_]) (fun _ _ h=>(h.dQ 1 rfl).gD rfl rfl (h.rs 0 rfl) RS.nil) Y;exact h2.cu
 have _m:0<k:=U;obtain⟨x1,x2,x3,x4⟩:=_g _m;refine O ?_;have _A:0<=f.eY.st*A.st:=vX U U;have _B:f.eY.st*A.st<=4096*4096:=w9 x2 J'.2 U U;have _C : -9223372036854775808<=f.eY.st*A.st:=U;have _D:f.eY.st*A.st<=9223372036854775807:=U;refine gi (pl [0,1,2,3,4,5] []) Y kr ?_;clear Y;intro w Y
 repeat (first|refine Cw ?_|refine DM ?_|refine F4 ?_|refine Bz ?_|refine FW ?_|refine Bn ?_|refine D6 ?_)
 refine w6 ?_;have Y:Z w0 w (am D 164 [vv,sv,H,.bool ex]::bA (fun w=>dE w cc ce cg f.eY)::bA (fun w=>dE w R V ag A)::am pg 201 [E k,nS,nS,E 0]::am R' 142 [E A.st,E A.cj,R,V,ag]::am pc 142 [E f.eY.st,E f.eY.cj,cc,ce,cg]::X gd 201 sv ms::bA (lR ms f.fp)::am r 142 [E 0,E 0,nS,nS,nS]::am pt 26 [a,b,c,d]::Γ):=Y.cu;refine rJ [17,18,79,103] (G:=Int × Int) (fun x=>[(17,E x.1),(18,E x.2)]) (fun x w=>x=nq (M':Int) f.eY.st A.st/\Z w0 w (am D 164 [vv,sv,H,.bool ex]::bA (fun w=>dE w cc ce cg f.eY)::bA (fun w=>dE w R V ag A)::am pg 201 [E k,nS,nS,E 0]::am R' 142 [E A.st,E A.cj,R,V,ag]::am pc 142 [E f.eY.st,E f.eY.cj,cc,ce,cg]::X gd 201 sv ms::bA (lR ms f.fp)::am r 142 [E 0,E 0,nS,nS,nS]::am pt 26 [a,b,c,d]::Γ)) (fun _=>rfl) ?_ ?_
 ·refine aC ?_ ?_<;>intro g1
  rotate_left
  ·refine O ?_
   exact⟨(f.eY.st,A.st),⟨rfl,rfl,az⟩,aX,by unfold nq;rw[aM U],Y⟩
  refine aC ?_ ?_<;>intro g2
  ·refine O ?_
   exact⟨(f.eY.st,(M':Int).tdiv f.eY.st),⟨rfl,rfl,az⟩,aX,by unfold nq;rw[ba U,ba U],Y⟩
  refine aC ?_ ?_<;>intro g3
  ·refine O ?_
   exact⟨((M':Int).tdiv A.st,A.st),⟨rfl,rfl,az⟩,aX,by unfold nq;rw[ba U,aM U,ba U],Y⟩
  refine O ?_;exact⟨(j6 (M':Int),j6 (M':Int)),⟨rfl,rfl,az⟩,aX,by unfold nq;rw[ba U,aM U,aM U],Y⟩
 clear Y;rintro _ z w ⟨_t,Y⟩
 have K:pF t M' (k+1)=if cK f.eY z.1≠0 then ⟨cT,f.fp,cK f.eY z.1⟩ else if cK A z.2≠0 then ⟨cT,f.fp,cK A z.2⟩ else if dG (dV f.eY z.1) (dV A z.2)≠0 then ⟨cT,f.fp++[⟨(k:Int),gP A z.2,gP f.eY z.1,(dV A z.2).st⟩],dG (dV f.eY z.1) (dV A z.2)⟩ else ⟨iM (dV f.eY z.1) (dV A z.2),f.fp++[⟨(k:Int),gP A z.2,gP f.eY z.1,(dV A z.2).st⟩],0⟩:=by
  rw[OZ _m,<-hX,_t,_c];unfold n0;rw[aM (fun h=>h _b),aM (fun h=>h he)]
 have oX:=(Y.dQ 1 rfl).nG;refine O ?_;refine aR rfl (OX (S:=f.eY) (most:=z.1) Y hT ⟨U,x2⟩) ?_;clear Y;rintro _ w ⟨yv,ye,yg,qv,ex,rfl,Y⟩;refine⟨_,rfl,?_⟩;obtain⟨er,N⟩:=À (cK f.eY z.1);obtain⟨S,hS⟩:=À (dV f.eY z.1);obtain⟨C,hC⟩:=À (gP f.eY z.1);rw[<-N]at K ⊢;rw[<-hS,<-hC]at Y K;rw[<-hS];have oS:=(Y.dQ 2 rfl).nG;unfold df;by_cases u:er=0;rotate_left
 ·rw[ba u]at K
  have m:=H' _ _ u K;obtain⟨Q,q⟩:=À er;obtain⟨LL,y⟩:=À f.fp;have o:Q≠0:=by rw[q];exact u
  rw[<-q]at m ⊢;rw[<-y]at Y m;rw[c9 o];refine jD ?_;intro w Y;rw[m];have Y:Z w0 w (am r 142 [E 0,E 0,nS,nS,nS]::am D 164 [vv,sv,H,.bool ex]::X gd 201 sv ms::bA (lR ms LL)::Γ):=Y.cu;refine mq (parts:=[]) (vs:=[]) rfl rfl rfl ?_;refine jD ?_;intro w Y;refine jF (p:=r) (vs:=[E 0,E 0,nS,nS,nS]) rfl rfl (v':=bS Q) (by rw[c9 o];rfl) rfl (fun j v hv=>nw (i:=0) Y rfl hv) ⟨nS,nS,nS,sv,ms,ex,rfl,fun h=>absurd h o,?_⟩;have h9:Z w0 _ (bA (fun w=>dE w (nS) (nS) (nS) cT)::_):=Z.r6 (fun w=>⟨RS.nil,RS.nil,RS.nil⟩) Y;exact h9.cu
 rw[aM (fun h=>h u)]at K;have V':=y8 x1 (N.symm.trans u);rw[<-hS,<-hC]at V';rw[ff u];refine jD ?_;intro w Y;simp only[mY,lO]at Y;have Y:Z w0 w (am D 164 [vv,sv,H,.bool ex]::bA (fun w=>dE w R V ag A)::X W 3 qv C::bA (fun w=>dE w yv ye yg S)::am pg 201 [E k,nS,qv,E 0]::am R' 142 [E A.st,E A.cj,R,V,ag]::am pc 142 [E S.st,E S.cj,yv,ye,yg]::X gd 201 sv ms::bA (lR ms f.fp)::am r 142 [E 0,E 0,nS,nS,nS]::am pt 26 [a,b,c,d]::Γ):=Y.cu;refine aR rfl (OX (S:=A) (most:=z.2) Y hT ⟨U,J'.2⟩) ?_;clear Y;rintro _ w ⟨zv,ze,zg,rv,ex,rfl,Y⟩;refine⟨_,rfl,?_⟩;obtain⟨_n,_f⟩:=À (cK A z.2);obtain⟨P,_j⟩:=À (dV A z.2);obtain⟨C2,_o⟩:=À (gP A z.2);rw[<-_f]at K ⊢;rw[<-_j,<-_o]at Y K;rw[<-_j];have _E:=(Y.dQ 2 rfl).nG;unfold df;by_cases T':_n=0;rotate_left
 ·rw[ba T']at K
  have m:=H' _ _ T' K;obtain⟨Q,q⟩:=À _n;obtain⟨LL,y⟩:=À f.fp;have o:Q≠0:=by rw[q];exact T'
  rw[<-q]at m ⊢;rw[<-y]at Y m;rw[c9 o];refine jD ?_;intro w Y;rw[m];have Y:Z w0 w (am r 142 [E 0,E 0,nS,nS,nS]::am D 164 [vv,sv,H,.bool ex]::X gd 201 sv ms::bA (lR ms LL)::Γ):=Y.cu;refine mq (parts:=[]) (vs:=[]) rfl rfl rfl ?_;refine jD ?_;intro w Y;refine jF (p:=r) (vs:=[E 0,E 0,nS,nS,nS]) rfl rfl (v':=bS Q) (by rw[c9 o];rfl) rfl (fun j v hv=>nw (i:=0) Y rfl hv) ⟨nS,nS,nS,sv,ms,ex,rfl,fun h=>absurd h o,?_⟩;have h9:Z w0 _ (bA (fun w=>dE w (nS) (nS) (nS) cT)::_):=Z.r6 (fun w=>⟨RS.nil,RS.nil,RS.nil⟩) Y;exact h9.cu
 rw[aM (fun h=>h T')]at K;have _e:=y8 J'.1 (_f.symm.trans T');rw[<-_j,<-_o]at _e;rw[ff T'];refine jD ?_;intro w Y;simp only[mY,lO]at Y;refine gi (pl [0,1,2,3,4,5,6] (.cY 4::pl [7,8,9,10] [])) Y kr ?_;clear Y;intro w Y;refine O ?_;refine jA gd (x1:=⟨(k:Int),rv,qv,P.st⟩) rfl rfl rfl (fP rfl) (fg _) Y ?_;clear Y;intro s2 w Y;refine O ?_;have _d:ms.length=f.fp.length:=(show lR ms f.fp w from Y.dQ 10 rfl).len;have oq:=(bB (s:=qv) Y).one;have _i:=(bB (s:=rv) Y).one;refine sF (T:=gd) (sz:=4) (by_:=64) (e:=201) (zs:=[E 0,nS,nS,E 0]) (s:=sv) (s2:=s2) (xs:=ms) (ys:=[⟨(k:Int),rv,qv,P.st⟩]) inferInstance rfl rfl (bB Y) rfl rfl (fun x hx v hv=>by rw[fU.1 hx]at hv;simp only[gd,gT,jd,pQ]at hv;rcases hv with rfl|rfl|rfl|rfl<;>first|rfl|exact oq|exact _i) (by simp only[length_cons,length_nil];omega) (by unfold cn;simp only[length_cons,length_nil];omega) Y ?_;clear Y;intro sv w Y;refine jD ?_;intro w Y;simp only[mY,lO]at Y;have Y:Z w0 w (X W 3 rv C2::X W 3 qv C::bA (lR ms f.fp)::bA (fun w=>dE w yv ye yg S)::bA (fun w=>dE w zv ze zg P)::am pc 142 [E S.st,E S.cj,yv,ye,yg]::am D 164 [vv,sv,H,.bool ex]::X gd 201 sv (ms++[⟨(k:Int),rv,qv,P.st⟩])::am r 142 [E 0,E 0,nS,nS,nS]::am pt 26 [a,b,c,d]::Γ):=Y.cu;have Y:=Z.rd (Δ:=[_,_,_]) (φ:=lR (ms++[⟨(k:Int),rv,qv,P.st⟩]) (f.fp++[⟨(k:Int),C2,C,P.st⟩])) (fun _ _ h=>(h.dQ 2 rfl).gD rfl rfl (h.rs 0 rfl) (h.rs 1 rfl)) Y;obtain⟨ms,_u⟩:=À (ms++[⟨(k:Int),rv,qv,P.st⟩])
 obtain⟨LL,y⟩:=À (f.fp++[⟨(k:Int),C2,C,P.st⟩]);rw[<-_u,<-y]at Y;rw[<-y]at K;refine aR rfl (Ĩ (A:=S) (B:=P) (Y.dQ 1 rfl) (Y.dQ 2 rfl)) ?_;rintro _ w' ⟨uv,ue,ug,rfl,aw⟩;refine rm ?_;clear aw Y;intro Y;simp only[uR,lQ]at Y;obtain⟨_p,_a⟩:=À (dG S P);obtain⟨S3,_k⟩:=À (iM S P);rw[<-_a,<-_k]at K ⊢;rw[<-_k]at Y;have o1:=(bB (s:=uv) Y).one;have o2:=(bB (s:=ue) Y).one;have o3:=(bB (s:=ug) Y).one;unfold df;by_cases P':_p=0;rotate_left
 ·rw[ba P']at K
  have m:=H' _ _ P' K;obtain⟨Q,q⟩:=À _p;have o:Q≠0:=by rw[q];exact P'
  rw[<-q]at m ⊢;rw[c9 o];refine O ?_;refine lm (n:=5) (p:=pc) (vs:=[E S3.st,E S3.cj,uv,ue,ug]) rfl rfl Y inferInstance rfl rfl (by simp only[fo,fB,o1,o2,o3];rfl) ?_;clear Y;intro w Y;refine O ?_;rw[m];have Y:Z w0 w (am r 142 [E 0,E 0,nS,nS,nS]::am D 164 [vv,sv,H,.bool ex]::X gd 201 sv ms::bA (lR ms LL)::Γ):=Y.cu;refine mq (parts:=[]) (vs:=[]) rfl rfl rfl ?_;refine jD ?_;intro w Y;refine jF (p:=r) (vs:=[E 0,E 0,nS,nS,nS]) rfl rfl (v':=bS Q) (by rw[c9 o];rfl) rfl (fun j v hv=>nw (i:=0) Y rfl hv) ⟨nS,nS,nS,sv,ms,ex,rfl,fun h=>absurd h o,?_⟩;have h9:Z w0 _ (bA (fun w=>dE w (nS) (nS) (nS) cT)::_):=Z.r6 (fun w=>⟨RS.nil,RS.nil,RS.nil⟩) Y;exact h9.cu
 rw[aM (fun h=>h P')]at K;rw[ff P'];refine O ?_;refine lm (n:=5) (p:=pc) (vs:=[E S3.st,E S3.cj,uv,ue,ug]) rfl rfl Y inferInstance rfl rfl (by simp only[fo,fB,o1,o2,o3];rfl) ?_;clear Y;intro w Y;refine O ?_;have j:S3.st=S.st*P.st:=by rw[_k];unfold iM;rw[ba (_a.symm.trans P')]
 have m:S.st*P.st<=4096:=by
  have h:=_a.symm.trans P';unfold dG at h;by_cases c1:cW S/\cW P/\S.aN=P.aN
  ·rw[ba c1]at h
   by_cases c2:4096<S.st*P.st
   ·rw[ba c2]at h;exact absurd h dc
   omega
  rw[aM c1]at h;exact absurd h dc
 have o:1*1<=S.st*P.st:=w9 V'.sh _e.sh U (by have:=V'.sh;omega);refine⟨k+1,⟨rfl,az⟩,aX,⟨U,by rw[K],fun _=>?_,sv,ms,ex,uv,ue,ug,?_⟩,U⟩
 ·rw[K]
  refine⟨by show 1<=S3.st;omega,by show S3.st<=4096;omega,?_,by show LL.length=k+1;rw[y,length_append,x4];rfl⟩;show Ch t.vars LL S3.st;rw[j,y];exact Ch.gD f.fp f.eY.st S.st ⟨(k:Int),C2,C,P.st⟩ x3 (by show (k:Int)=_;rw[x4]) (by show (C2.length:Int)=_;rw[_e.len,_h,x4]) _e.et (by rw[x4];omega) V'.len V'.et m
 rw[K];have h1:Z w0 w (X W 3 uv S3.aN::X aV 190 ue S3.aH::X ah 4 ug S3.aW::am pc 142 [E S3.st,E S3.cj,uv,ue,ug]::am D 164 [vv,sv,H,.bool ex]::X gd 201 sv ms::bA (lR ms LL)::am r 142 [E 0,E 0,nS,nS,nS]::am pt 26 [a,b,c,d]::Γ):=Y.cu;have h2:=Z.rd (Δ:=[_,_,_]) (φ:=fun w=>dE w uv ue ug S3) (fun _ _ h=>⟨h.rs 0 rfl,h.rs 1 rfl,h.rs 2 rfl⟩) h1;exact h2.cu
def Ch.step {vars:J}{L:List lW}{n:Int}(h:Ch vars L n):∀ k,k<L.length->∃ y,y=L.getD k ⟨0,[],[],0⟩/\L.take (k+1)=L.take k++[y]/\y.var=(k:Int)/\((y.eP.length:Int)=vars.getD k W.dflt)/\(∀ i:Nat,i<y.eP.length->0<=y.eP.getD i W.dflt/\y.eP.getD i W.dflt<y.fp)/\k<vars.length/\(0<k->∃ o m,Ch vars (L.take k) o/\((y.qI.length:Int)=o)/\(∀ i:Nat,i<y.qI.length->0<=y.qI.getD i W.dflt/\y.qI.getD i W.dflt<m)/\m*y.fp<=4096):=by
 induction h with
 | one x hv d f g =>
  intro k hk;have:k=0:=by simp at hk;omega
  subst this
  exact⟨x,rfl,rfl,hv,d,f,g,fun h=>absurd h U⟩
 | gD l n m y h hv d f g q j hm r =>
  intro k hk;by_cases c:k<l.length
  ·obtain⟨z,h1,u,v⟩:=r k c
   refine⟨z,?_,?_,?_⟩
   ·rw[h1,Ki,ba c]
   ·rw[Bs U,Bs U];exact u
   rw[Bs U];exact v
  rw[length_append,w7]at hk;have e:k=l.length:=U;subst e;refine⟨y,?_,?_,hv,d,f,g,fun _=>⟨n,m,?_,q,j,hm⟩⟩
  ·rw[Ki,aM c,ba rfl]
  ·rw[Bs (cP _),mK]
   have:l.length+1=(l++[y]).length:=by rw[length_append];rfl
   rw[this,mK]
  rw[Bs (cP _),mK];exact h
def lR.at {w0 w:World}{Γ:List HP}{ms:List yJ}{L:List lW}(h:lR ms L w0)(Y:Z w0 w Γ):lR ms L w:=⟨h.len,h.var,h.fp,fun i b=>(h.eP i b).at Y,fun i b=>(h.qI i b).at Y⟩
def xt (w:World)(p:Addr)(t:aa)(L:List lW)(D:J):Prop:=∃ b c d e ms,eJ w p [b,c,d,e]/\RS W w b t.vars/\RS gd w c ms/\lR ms L w/\RS W w d D
def xt.at {w0 w:World}{Γ:List HP}{p:Addr}{t:aa}{L:List lW}{D:J}(h:xt w0 p t L D)(Y:Z w0 w Γ):xt w p t L D:=by
 obtain⟨b,c,d,e,ms,h1,f,g,i,j⟩:=h;exact⟨b,c,d,e,ms,h1.at Y,f.at Y,g.at Y,i.at Y,j.at Y⟩
def Ź {p:Addr}{D:J}{z:Value}{s:J}(g:xt w0 p t L D)(hk:∀ k,k<L.length->∃ n,Ch t.vars L n)(hD:0<=qH s L/\qH s L<D.length)(F:RS W w0 z s)(bX:aj t.vars s) :
  Calls ak 331 #[.pointer (some p),z] w0 fun e w'=>e=.returned (E (D.getD (qH s L).toNat W.dflt))/\Z w0 w' []:=by
 obtain⟨vv,sv,dv,xb,ms,h1,H,K,d,h5⟩:=g;have N:=d.len;have P:=K.cn;have Q:=bX.1;have Y:=Z.start w0;refine bI ar Tryz.func331 ?_;refine O ?_;refine aR rfl (zW H (F.at Y)) ?_;rintro _ w' ⟨⟨r,rfl,g⟩,aw⟩;refine aL ?_;clear aw Y;intro Y;have h:r=true:=g.2 bX;subst h;refine O ?_;refine de [5,8,25,52] (G:=Nat) (fun k=>[(25,E k),(5,E (qH s (L.take k)))]) (fun k w=>k<=L.length/\Z w0 w []) (fun k=>L.length-k) 0 (fun _=>rfl) ⟨rfl,rfl,az⟩ ⟨bC _,Y⟩ ?_;clear Y;rintro σ k w ⟨R,Y⟩;refine aC ?_ ?_<;>intro g1;rotate_left
 ·have b:k=L.length:=U
  rw[b,mK];refine O ?_;exact bo (v:=E (D.getD (qH s L).toNat W.dflt)) rfl rfl ⟨rfl,Y.bj⟩
 have b:k<L.length:=U;obtain⟨n,i⟩:=hk k b;obtain⟨y,S,f,c,T,j,V,o⟩:=i.step k b;have m1:=d.var k b;have m2:=d.fp k b;have m3:=d.eP k b;have m4:=d.qI k b;rw[<-S]at m1 m2 m3 m4;rw[c]at m1;obtain⟨m,hm⟩:=À (ms.getD k gd.dflt);rw[<-hm]at m1 m2 m3 m4;obtain⟨mv,A,B,mt⟩:=m;have m1:mv=(k:Int):=m1;have m2:mt=y.fp:=m2;have m3:RS W w0 A y.eP:=m3;have m4:RS W w0 B y.qI:=m4;subst m1 m2;have o3:=m3.one;have o4:=m4.one;refine dj ?_;intro p w Y;rw[<-hm];refine lm (n:=4) (p:=p) (vs:=[E k,A,B,E y.fp]) rfl rfl Y inferInstance rfl rfl (by simp only[fo,fB,o3,o4];rfl) ?_;clear Y;intro w Y;have j':=bX.2 k U;refine O ?_;refine gi (pl [0,1,2,3,4,5,6,7,8,9] []) Y kr ?_;clear Y;intro w Y;refine aC ?_ ?_<;>intro g2
 ·have q:k=0:=U
  subst q;refine O ?_;have x:qH s (L.take (0+1))=y.eP.getD (s.getD 0 W.dflt).toNat W.dflt:=by
   rw[f];show y.eP.getD (s.getD y.var.toNat W.dflt).toNat W.dflt=_;rw[c];rfl
  exact⟨0+1,⟨rfl,by rw[x];rfl,az⟩,aX,⟨U,Y.bj⟩,U⟩
 have q:0<k:=U;obtain⟨n',M',C,b2,b3,b4⟩:=o q;have b5:=C.at bX;have b6:=b3 (qH s (L.take k)).toNat U;have b7:=j (s.getD k W.dflt).toNat U;have x:qH s (L.take (k+1))=y.qI.getD (qH s (L.take k)).toNat W.dflt*y.fp+y.eP.getD (s.getD k W.dflt).toNat W.dflt:=by
  rw[f,OW C.ne,c];rfl
 obtain⟨u,hu⟩:=À (y.qI.getD (qH s (L.take k)).toNat W.dflt);have b8:0<=u*y.fp:=vX U U;have b9:(u+1)*y.fp<=M'*y.fp:=zF U U;rw[HQ,Int.one_mul]at b9;have c1 : -9223372036854775808<=u*y.fp:=U;have c2:u*y.fp<=9223372036854775807:=U;refine O ?_;refine gi (pl [0,1,2,3,4,5,6,7,8,9,10] []) Y kr ?_;clear Y;intro w Y;refine O ?_;rw[<-hu];refine O ?_;exact⟨k+1,⟨rfl,by rw[x,<-hu];rfl,az⟩,aX,⟨U,Y.bj⟩,U⟩
def KpV (b:Addr)(a:Value)(L:J)(c d:World):Prop:=(c.cell? b=some a->d.cell? b=some a)/\(RS W c a L->RS W d a L)
def C6 (x:Int):Array Value:=#[E x]
def YD {n:Nat}{e:Addr}{L:J}(u:w0.cell? e=some a)(g:RS W w0 a L) :
  SeqStopsK (α:=Int) Fence.wide n ak 113 #[.pointer (some e)] C6 (KpV e a L) (fun xs=>xs=L) (fun _=>True) L.length w0:=by
 intro l b D v x F A B y;refine(callsIn_wide (n:=n)).2 ?_;have c:v.cell? e=some a:=by
  have d:e.block<w0.heap.size:=by
   rcases pB e.block w0.heap.size with h|h
   ·exact h
   simp[World.cell?,vj h]at u
  rw[x.cell d];exact u
 have d:RS W v a L:=⟨g.1.below x,g.2⟩
 have C:=g.cn;refine bI ar Tryz.func113 ?_;refine O ?_;refine r7 rfl (yd rfl c) ?_;refine O ?_;refine de [4,4,7,15] (G:=Nat) (fun k=>[(7,E k)]) (fun k w=>k<=L.length/\b (L.take k) w/\w.cell? e=some a/\RS W w a L) (fun k=>L.length-k) 0 (fun _=>rfl) ⟨rfl,az⟩ ⟨bC _,y,c,d⟩ ?_;clear c d y;rintro H k w ⟨hk,i,c,d⟩;refine aC ?_ ?_<;>intro h1
 ·have f:k<L.length:=U
  have z:=B (L.take k) (L.getD k W.dflt) w i (by rw[jC];omega);have j:L.take k++[L.getD k W.dflt]=L.take (k+1):=by rw[IF,mL f,aq f];rfl
  rw[j]at z;refine O ?_;refine RL (l:=l) rfl rfl z ?_;rintro _ K (⟨rfl,m,o,q⟩|⟨rfl,r⟩)
  ·refine⟨_,rfl,?_⟩
   refine O ?_;exact⟨k+1,⟨rfl,az⟩,aX,⟨U,m,o c,q d⟩,U⟩
  refine⟨_,rfl,?_⟩;refine O ?_;exact LU rfl ⟨⟨_,rfl⟩,.inr ⟨_,az,r⟩⟩
 have f:k=L.length:=U;subst f;refine O ?_;rw[mK]at i;exact uK rfl ⟨⟨_,rfl⟩,.inl ⟨L,rfl,i⟩⟩
def YM :
  Calls ak 88 #[a] w0 fun e w'=>∃ b,e=.returned (.func (.func 113) #[] #[.pointer (some b)])/\Z w0 w' [am b 22 a.cells.toList]:=by
 have Y:=Z.start w0;refine bI ar Tryz.func88 ?_;refine ep ?_;intro p w Y;exact bo (v:=.func (.func 113) #[] #[.pointer (some p)]) rfl rfl ⟨p,rfl,Y⟩
end
end Go.Proofs.YtmapkjoefdgjfaaGreatDoor
