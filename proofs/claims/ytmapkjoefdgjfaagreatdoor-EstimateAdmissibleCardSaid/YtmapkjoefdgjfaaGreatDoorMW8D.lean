/- Several texts. -/
import Derived.Test.YtmapkjoefdgjfaaGreatDoorMW7D
set_option linter.unusedSimpArgs false
set_option linter.unusedVariables false
set_option linter.defProp false
set_option maxRecDepth 8000
set_option maxHeartbeats 16000000
open List Nat
namespace Go.Proofs.YtmapkjoefdgjfaaGreatDoor
open Go.Sl
variable {w0 w:World}{t:aa}{most n:Int}{a:Value}{k:Nat}{l L:List kA}
section
open Go.Sl Go
attribute [local irreducible] vc opsW opsD opV opW PureV ReadV Thn Blk
def Mw {Γ:List HP}{B:Addr}{vv sv D u y sg:Value}{ex:Bool}{S:bV}(Y:M w0 w (ak B 164 [vv,sv,D,.bool ex]::bj (fun w=>cV w u y sg S)::Γ))(hT:lT w0)(_b:0<=S.st/\S.st<=4096) :
  Calls aj 116 #[.pointer (some B),cK S u y sg,E most] w fun e w'=>∃ cv ev gv v b,e=.returned (.tuple #[cK (dU S most) cv ev gv,v,bO (cI S most)])/\M w0 w' (ak B 164 [vv,sv,D,.bool b]::X O 3 v (fU S most)::bj (fun w=>cV w cv ev gv (dU S most))::Γ):=by
 have oS:=(Y.cU 1 rfl).mh;obtain⟨n,d⟩:∃ n:Nat,S.st=(n:Int):=⟨S.st.toNat,U⟩
 refine bB ao Tryz.func116 ?_;unfold cK;rw[d]at oS ⊢
 repeat (first|refine dB ?_|(refine iy ?_;clear Y;intro p w Y))
 rename_i ps ws;obtain⟨z,rfl⟩:=À p;have Y:M w0 w (ak z 142 [E 0,E 0,nS,nS,nS]::ak ps 142 [E n,E S.bL,u,y,sg]::ak B 164 [vv,sv,D,.bool ex]::bj (fun w=>cV w u y sg S)::Γ):=Y;refine jy ?_ ?_<;>intro h1
 ·have R:cI S most=0:=by unfold cI;rw[d,aP h1]
  have V:fU S most=cY n:=by unfold fU;rw[d,aP h1];congr 1
  have hP:dU S most=S:=by unfold dU;rw[d,aP h1]
  rw[R,V,hP];refine W ?_;refine fQ (pl [0,1,2,3] (.cJ 0::pl [4,5,6] [])) Y kr ?_;clear Y;intro w Y;refine W ?_;refine aU rfl (OH (n:=n) U) ?_;rintro _ w' ⟨v,rfl,an⟩;refine aL ?_;clear an Y;intro Y;refine iC ?_;intro w Y;exact HE (p:=z) (vs:=[E n,E S.bL,u,y,sg]) rfl rfl (v':=v) rfl (v2:=.nilIface) rfl rfl (fun j v hv=>lM (i:=1) Y rfl hv) ⟨u,y,sg,v,ex,by rw[d,gy rfl],Y.cq⟩
 have q:¬S.st<=most:=U;have _c:¬(n:Int)<=most:=U;refine W ?_;refine aU rfl (by have:=X0 (S:=S) (most:=most) (Y.cU 3 rfl) (hT.at Y);unfold cK at this;rw[d]at this;exact this) ?_;rintro _ w' ⟨r,rfl,P',an⟩;refine aL ?_;clear an Y;intro Y;by_cases hv:iS S=true
 case neg =>
  have b:¬dP S:=fun h=>hv (Ck h);have R:cI S most=2:=by unfold cI;rw[aH q,aH b]
  have V:fU S most=[]:=by unfold fU;rw[aH q,aH b]
  have hP:dU S most=cA:=by unfold dU;rw[aH q,aH b]
  have hD:iF S=2:=by unfold iF;rw[aH hv]
  rw[R,V,hP,hD,dq dc];refine W ?_;refine lA (parts:=[]) (vs:=[]) rfl rfl rfl ?_;refine iC ?_;intro w Y;refine HE (p:=z) (vs:=[E 0,E 0,nS,nS,nS]) rfl rfl (v':=nS) rfl (v2:=.iface 57 (E 2)) rfl rfl (fun j v hv=>lM (i:=1) Y rfl hv) ⟨nS,nS,nS,nS,ex,rfl,?_⟩;have h1:M w0 _ (bj (fun w=>cV w (nS) (nS) (nS) cA)::_):=M.pN (fun w=>⟨RS.nil,RS.nil,RS.nil⟩) (Y.nil (T:=O) (e:=3));exact h1.cq
 have b:dP S:=nl fun h=>by rw[wc h]at hv;cases hv
 have R:cI S most=fz S (gD S most):=by unfold cI;rw[aH q,aP b]
 have V:fU S most=gD S most:=by unfold fU;rw[aH q,aP b]
 have hP:dU S most=kE S (gD S most):=by unfold dU;rw[aH q,aP b]
 have hD:iF S=0:=by unfold iF;rw[aP hv]
 have hR:uc S most=gD S most:=by unfold uc;rw[aP hv]
 obtain⟨G,j'⟩:=P' hv;rw[R,V,hP,hD,gy rfl];rw[hR]at Y;refine W ?_;refine aU rfl (by have:=QH (S:=S) (Y.cU 4 rfl) (hT.at Y);unfold cK at this;rw[d]at this;exact this) ?_;rintro _ w' ⟨fv,rfl,R',an⟩;refine aL ?_;clear an Y;intro Y;rw[hD,gy rfl];have T':rp S=uJ S:=by unfold rp;rw[aP hv]
 rw[T']at Y;obtain⟨L,_d,H'⟩:=R' hv;have a1:1<=S.st:=b.1;have H:0<(uJ S).length:=by rw[H',CH];omega
 have J':∀ x∈uJ S,0<=x/\x<=65536:=fun x hx=>by
  rw[H']at hx;obtain⟨i,g,rfl⟩:=fF hx;have h1:=Ea (l:=L) (i:=i) (by rw[CH]at g;exact g);rw[al g]at h1;have:=Hn L;omega
 obtain⟨C,V'⟩:=À (gD S most);obtain⟨F,_a⟩:=À (uJ S);rw[<-V']at G j' Y ⊢;rw[<-_a]at H J' Y;have _e:=j' _ (Ky G);have _f:=J' _ (Ky H)
 cases ex with
 | false =>
  refine iC ?_;intro w Y;simp only[mM,mJ]at Y;obtain⟨A,Y⟩:∃ A,M w0 _ (X O 3 fv F::X O 3 r C::ak z 142 [E 0,E 0,nS,nS,nS]::ak ps 142 [E n,E S.bL,u,y,sg]::ak B 164 [vv,sv,D,.bool A]::bj (fun w=>cV w u y sg S)::Γ):=⟨_,Y⟩
  refine aU rfl (by have:=QT (S:=S) (c:=C) (Y.cU 5 rfl) b (bm (s:=r) Y);unfold cK at this;rw[d]at this;exact this) ?_;rintro _ w' ⟨g,m,o,rfl,an⟩;refine qM ?_;clear an Y;intro Y;obtain⟨ev,K⟩:=À (bO (fz S C));obtain⟨Q,hQ⟩:=À (kE S C);rw[<-K,<-hQ];rw[<-hQ]at Y;simp only[qA,kq]at Y;have o1:=(bm (s:=g) Y).one;have o2:=(bm (s:=m) Y).one;have o3:=(bm (s:=o) Y).one;refine c9 ?_;intro p w Y;refine jH (n:=5) (p:=p) (vs:=[E Q.st,E Q.bL,g,m,o]) rfl rfl Y inferInstance rfl rfl (by simp only[ew,eN,o1,o2,o3];rfl) ?_;clear Y;intro w Y;refine W ?_;refine jH (n:=5) (p:=z) (vs:=[E Q.st,E Q.bL,g,m,o]) rfl rfl Y inferInstance rfl rfl (by simp only[ew,eN,o1,o2,o3];rfl) ?_;clear Y;intro w Y;refine W ?_;refine HE (p:=z) (vs:=[E Q.st,E Q.bL,g,m,o]) rfl rfl (v':=r) rfl (v2:=ev) rfl rfl (fun j v hv=>lM (i:=6) Y rfl hv) ⟨g,m,o,r,A,rfl,?_⟩;have N:M w0 w (X O 3 g Q.aT::X aM 190 m Q.aB::X ah 4 o Q.aR::ak B 164 [vv,sv,D,.bool A]::X O 3 r C::Γ):=Y.cq;have h3:=M.rd (Δ:=[_,_,_]) (φ:=fun w=>cV w g m o Q) (fun _ _ h=>⟨h.rs 0 rfl,h.rs 1 rfl,h.rs 2 rfl⟩) N
  exact h3.cq
 | true =>
  refine W ?_;refine aU rfl (Rh (l:=C) (bm (s:=r) Y) G U) ?_;refine lU ?_;intro w' Y;refine aU rfl (Rh (l:=F) (bm (s:=fv) Y) H U) ?_;refine BG ?_;intro w Y;simp only[mM,mJ]at Y;obtain⟨A,Y⟩:∃ A,M w0 _ (X O 3 fv F::X O 3 r C::ak z 142 [E 0,E 0,nS,nS,nS]::ak ps 142 [E n,E S.bL,u,y,sg]::ak B 164 [vv,sv,D,.bool A]::bj (fun w=>cV w u y sg S)::Γ):=⟨_,Y⟩
  refine aU rfl (by have:=QT (S:=S) (c:=C) (Y.cU 5 rfl) b (bm (s:=r) Y);unfold cK at this;rw[d]at this;exact this) ?_;rintro _ w' ⟨g,m,o,rfl,an⟩;refine qM ?_;clear an Y;intro Y;obtain⟨ev,K⟩:=À (bO (fz S C));obtain⟨Q,hQ⟩:=À (kE S C);rw[<-K,<-hQ];rw[<-hQ]at Y;simp only[qA,kq]at Y;have o1:=(bm (s:=g) Y).one;have o2:=(bm (s:=m) Y).one;have o3:=(bm (s:=o) Y).one;refine c9 ?_;intro p w Y;refine jH (n:=5) (p:=p) (vs:=[E Q.st,E Q.bL,g,m,o]) rfl rfl Y inferInstance rfl rfl (by simp only[ew,eN,o1,o2,o3];rfl) ?_;clear Y;intro w Y;refine W ?_;refine jH (n:=5) (p:=z) (vs:=[E Q.st,E Q.bL,g,m,o]) rfl rfl Y inferInstance rfl rfl (by simp only[ew,eN,o1,o2,o3];rfl) ?_;clear Y;intro w Y;refine W ?_;refine HE (p:=z) (vs:=[E Q.st,E Q.bL,g,m,o]) rfl rfl (v':=r) rfl (v2:=ev) rfl rfl (fun j v hv=>lM (i:=6) Y rfl hv) ⟨g,m,o,r,A,rfl,?_⟩;have N:M w0 w (X O 3 g Q.aT::X aM 190 m Q.aB::X ah 4 o Q.aR::ak B 164 [vv,sv,D,.bool A]::X O 3 r C::Γ):=Y.cq;have h3:=M.rd (Δ:=[_,_,_]) (φ:=fun w=>cV w g m o Q) (fun _ _ h=>⟨h.rs 0 rfl,h.rs 1 rfl,h.rs 2 rfl⟩) N;exact h3.cq
end
section
open Go.Sl
def I_ {c:J}{k:Int}(h:jB c n k)(f:1<=n):1<=k:=by
 obtain⟨h1,d,e,_⟩:=h;have hm:c.getD 0 O.dflt∈c:=cD O.dflt U;have a:=(d _ hm).1;have b:=e _ hm;omega
open Classical in
def T6 {c:J}(h:lm c n=true):0<=lW c n/\jB c n (lW c n):=by
 unfold lm at h;rw[gR]at h;unfold lW;rw[dif_pos h];exact wh h
structure M4 (S:bV) (C:J) (S':bV):Prop where
 len:(C.length:Int)=S.st
 dC:∀ i:Nat,i<C.length->0<=C.getD i O.dflt/\C.getD i O.dflt<S'.st
 qE:1<=S'.st
 sA:S'.st<=S.st
def xu {S:bV}(h1:1<=S.st)(c:cI S most=0):M4 S (fU S most) (dU S most):=by
 by_cases hm:S.st<=most
 ·have e:fU S most=cY S.st.toNat:=by unfold fU;rw[aP hm]
  have f:dU S most=S:=by unfold dU;rw[aP hm]
  rw[e,f];have b:(cY S.st.toNat).length=S.st.toNat:=by simp[cY]
  refine⟨U,fun i d=>?_,h1,du _⟩;have:(cY S.st.toNat).getD i O.dflt=(i:Int):=by
   rw[b]at d;simp[cY,List.getD,d]
  omega
 by_cases hv:dP S
 ·have e:fU S most=gD S most:=by unfold fU;rw[aH hm,aP hv]
  have f:dU S most=kE S (gD S most):=by unfold dU;rw[aH hm,aP hv]
  have b:fz S (gD S most)=0:=by unfold cI at c;rwa[aH hm,aP hv]at c
  rw[e,f];have g:lm (gD S most) S.st=true:=by
   unfold fz at b;by_cases h:iS S=true/\lm (gD S most) S.st=true
   ·exact h.2
   rw[aH h]at b;exact absurd b dc
  obtain⟨u,j⟩:=T6 g;have m:(kE S (gD S most)).st=lW (gD S most) S.st:=by unfold kE;rw[aP b]
  have o:=I_ j h1;obtain⟨c1,c2,q,r⟩:=j;refine⟨c1,fun i d=>?_,U,?_⟩
  ·have hm:(gD S most).getD i O.dflt∈gD S most:=cD O.dflt d
   have:=c2 _ hm;have:=q _ hm;omega
  have:=c2 _ (r (lW (gD S most) S.st-1) U U);omega
 unfold cI at c;rw[aH hm,aH hv]at c;exact absurd c dc
def Uf {v:Nat}(I:aC t)(hv:v<t.vars.length):(dV t [(v:Int)]).st=t.vars.getD v O.dflt:=by
 show bp t.vars [(v:Int)]=_;simp[bp,fO,cC,sg,List.getD,hv,O]
inductive Ch (vars:J):List kA->Int->Prop
 | one (x:kA):x.var=0->((x.dQ.length:Int)=vars.getD 0 O.dflt)->(∀ i:Nat,i<x.dQ.length->0<=x.dQ.getD i O.dflt/\x.dQ.getD i O.dflt<x.eI)->0<vars.length->Ch vars [x] x.eI
 | fe (l:List kA) (n m:Int) (y:kA):Ch vars l n->y.var=(l.length:Int)->((y.dQ.length:Int)=vars.getD l.length O.dflt)->(∀ i:Nat,i<y.dQ.length->0<=y.dQ.getD i O.dflt/\y.dQ.getD i O.dflt<y.eI)->l.length<vars.length ->
   ((y.oh.length:Int)=n)->(∀ i:Nat,i<y.oh.length->0<=y.oh.getD i O.dflt/\y.oh.getD i O.dflt<m)->m*y.eI<=4096->Ch vars (l++[y]) (m*y.eI)
def Mv {s:J}{y:kA}(h:l≠[]):nZ s (l++[y])=y.oh.getD (nZ s l).toNat O.dflt*y.eI+y.dQ.getD (s.getD y.var.toNat O.dflt).toNat O.dflt:=by
 cases l with
 | nil=>exact absurd rfl h
 | cons x r=>simp only[nZ,qA,tf,sr,Gz]
def Ch.ne {vars:J}(h:Ch vars l n):l≠[]:=by cases h<;>simp
def Ch.at {vars s:J}(b:ab vars s){l:List kA}{n:Int}(h:Ch vars l n):0<=nZ s l/\nZ s l<n:=by
 induction h with
 | one x hv j c d =>
  have e:nZ s [x]=x.dQ.getD (s.getD x.var.toNat O.dflt).toNat O.dflt:=rfl;rw[e];have o:=b.2 0 (by rw[b.1];exact d);rw[hv];have:=c (s.getD 0 O.dflt).toNat U
  exact this
 | fe l n m y h hv j c d B f hm C =>
  rw[Mv h.ne];have o:=b.2 l.length (by rw[b.1];exact d);rw[hv];have q:=c (s.getD l.length O.dflt).toNat U;have g:=f (nZ s l).toNat U;rw[show ((l.length:Nat):Int).toNat=l.length from by omega];obtain⟨r,c1⟩:=q;obtain⟨i,z⟩:=g;generalize y.dQ.getD (s.getD l.length O.dflt).toNat O.dflt=u at r c1 ⊢;generalize y.oh.getD (nZ s l).toNat O.dflt=v at i z ⊢;have h1:0<=v*y.eI:=tj i U;have A:(v+1)*y.eI<=m*y.eI:=yt U U;rw[zH,Dh]at A;omega
noncomputable def nw (t:aa)(most:Int)(k:Nat):CY:=if k=0 then ⟨cA,[],0⟩ else lB t most k
def Mx (t:aa)(most:Int):nw t most 1=pC t most 0:=rfl
def My (hk:0<k):nw t most (k+1)=pD t most (nw t most k) k:=by
 obtain⟨j,rfl⟩:∃ j,k=j+1:=⟨k-1,U⟩
 rfl
def Mz (hk:0<k)(he:(nw t most k).vr≠0):∀ m,k<=m->nw t most m=nw t most k:=by
 intro m hm
 induction m with
 | zero=>omega
 | succ m b =>
  by_cases e:k=m+1
  ·rw[e]
  have h1:=b U;rw[My U,h1];unfold pD;rw[aP he]
end
section
open Go.Sl Go
attribute [local irreducible] vc opsW opsD opV opW PureV ReadV Thn Blk
def J_ {b c d:Value}{vs:List iX}{v:Int}(m:bz w0 a b c d vs t) :
  Calls aj 115 #[.agg #[a,b,c,d],E v] w0 fun e w'=>∃ cv ev gv,e=.returned (.tuple #[cK (kw t [v] (cO t [v])) cv ev gv,bO (cO t [v])])/\s5 w0 w' cv ev gv (kw t [v] (cO t [v])):=by
 have Y:=M.start w0;refine bB ao Tryz.func115 ?_
 repeat (first|refine dB ?_|(refine iy ?_;clear Y;intro p w Y)|(refine fR ?_;clear Y;intro s w Y))
 obtain⟨g,rfl⟩:=À p;refine aU rfl (FO (m.at Y) (Y.rs 0 rfl)) ?_;rintro _ w' ⟨cv,ev,gv,rfl,an⟩;refine qM ?_;clear an Y;intro Y;simp only[qA,kq]at Y;obtain⟨o,f⟩:=À (bO (cO t [v]));obtain⟨S,h⟩:=À (kw t [v] (cO t [v]));rw[<-f,<-h];rw[<-h]at Y;have q:=(bm (s:=cv) Y).one;have r:=(bm (s:=ev) Y).one;have u:=(bm (s:=gv) Y).one;unfold cK;refine W ?_;refine jH (n:=5) (p:=g) (vs:=[E S.st,E S.bL,cv,ev,gv]) rfl rfl Y inferInstance rfl rfl (by simp only[ew,eN,q,r,u];rfl) ?_;clear Y;intro w Y;refine W ?_;refine lO (p:=g) (vs:=[E S.st,E S.bL,cv,ev,gv]) rfl rfl (v':=o) rfl rfl (fun j v hv=>lM (i:=4) Y rfl hv) ⟨cv,ev,gv,rfl,?_⟩;exact Y.bb
structure w5 where
 var:Int
 dQ:Value
 oh:Value
 eI:Int
def fq:Ty w5:=⟨4,fun x=>[E x.var,x.dQ,x.oh,E x.eI],fun _=>rfl,⟨0,nS,nS,0⟩⟩
structure kt (ms:List w5) (L:List kA) (w:World):Prop where
 len:ms.length=L.length
 var:∀ i,i<L.length->(ms.getD i fq.dflt).var=(L.getD i ⟨0,[],[],0⟩).var
 eI:∀ i,i<L.length->(ms.getD i fq.dflt).eI=(L.getD i ⟨0,[],[],0⟩).eI
 dQ:∀ i,i<L.length->RS O w (ms.getD i fq.dflt).dQ (L.getD i ⟨0,[],[],0⟩).dQ
 oh:∀ i,i<L.length->RS O w (ms.getD i fq.dflt).oh (L.getD i ⟨0,[],[],0⟩).oh
def Ir {α:Type}{l:List α}{x d:α}{i:Nat}:(l++[x]).getD i d=if i<l.length then l.getD i d else if i=l.length then x else d:=by
 by_cases h:i<l.length
 ·rw[aP h];simp[List.getD,js h]
 rw[aH h];by_cases e:i=l.length
 ·rw[aP e];subst e;simp[List.getD]
 rw[aH e];simp[List.getD,kp (wg.1 h),uE (show [x].length<=i-l.length by simp;omega)]
def kt.fe {ms:List w5}{m:w5}{y:kA}(h:kt ms L w)(h1:m.var=y.var)(h2:m.eI=y.eI)(f:RS O w m.dQ y.dQ)(g:RS O w m.oh y.oh):kt (ms++[m]) (L++[y]) w:=by
 have c:=h.len
 refine⟨by rw[length_append,length_append,c];rfl,fun i b=>?_,fun i b=>?_,fun i b=>?_,fun i b=>?_⟩ <;>
 ·rw[length_append,tr]at b
  rw[Ir,Ir,c];by_cases e:i<L.length
  ·rw[aP e,aP e]
   first|exact h.var i e|exact h.eI i e|exact h.dQ i e|exact h.oh i e
  have d:i=L.length:=U;rw[aH e,aH e,aP d,aP d]
  first|exact h1|exact h2|exact f|exact g
def kt.nil:kt [] [] w:=⟨rfl,fun _ h=>by simp at h,fun _ h=>by simp at h,fun _ h=>by simp at h,fun _ h=>by simp at h⟩
def K_ {n:Nat}(h:k<n):(cY n).getD k O.dflt=(k:Int):=by simp[cY,List.getD,h]
structure Ug (t:aa) (X':CY) (k:Nat):Prop where
 qE:1<=X'.eE.st
 sA:X'.eE.st<=4096
 ch:Ch t.vars X'.eI X'.eE.st
 len:X'.eI.length=k
def VN {Γ:List HP}{D:Addr}{vv H b c d ov:Value}{j':Bool}{vs:List iX}{M':Nat}(Y:M w0 w (ak D 164 [vv,nS,H,.bool j']::Γ))(hT:lT w0)(I:aC t)(ht:bz w0 a b c d vs t)(ho:RS O w0 ov (cY t.vars.length))(_v:1<=M')(_w:M'<=4096) :
  Calls aj 90 #[.pointer (some D),.agg #[a,b,c,d],ov,E M'] w fun e w'=>∃ cv ev gv sv ms ex,e=.returned (.tuple #[cK (lB t M' t.vars.length).eE cv ev gv,bO (lB t M' t.vars.length).vr])/\((lB t M' t.vars.length).vr=0->0<t.vars.length->Ug t (lB t M' t.vars.length) t.vars.length) /\
   M w0 w' (ak D 164 [vv,sv,H,.bool ex]::X fq 201 sv ms::bj (kt ms (lB t M' t.vars.length).eI)::bj (fun w=>cV w cv ev gv (lB t M' t.vars.length).eE)::Γ):=by
 obtain⟨n,hn⟩:=À t.vars.length;have _q:=I.vars;rw[<-hn]at ho _q ⊢;have _x:(cY n).length=n:=Ci n;refine bB ao Tryz.func90 ?_
 repeat (first|refine dB ?_|(refine iy ?_;clear Y;intro p w Y))
 rename_i pt wt;obtain⟨r,rfl⟩:=À p;have Y:M w0 w (ak r 142 [E 0,E 0,nS,nS,nS]::ak pt 26 [a,b,c,d]::ak D 164 [vv,nS,H,.bool j']::Γ):=Y;have Y:M w0 w (ak r 142 [E 0,E 0,nS,nS,nS]::ak pt 26 [a,b,c,d]::ak D 164 [vv,nS,H,.bool j']::Γ):=Y;refine jy ?_ ?_<;>intro h1
 ·have m:n=0:=U
  have f:lB t M' n=⟨kw t [] (cO t []),[],cO t []⟩:=by rw[m];rfl
  rw[f];refine W ?_;refine aU rfl (FO (L:=[]) (ht.at Y) RS.nil) ?_;rintro _ w' ⟨cv,ev,gv,rfl,an⟩;refine qM ?_;clear an Y;intro Y;simp only[qA,kq]at Y;obtain⟨er,N⟩:=À (bO (cO t []));obtain⟨S,hS⟩:=À (kw t [] (cO t []));rw[<-N,<-hS];rw[<-hS]at Y;have o1:=(bm (s:=cv) Y).one;have o2:=(bm (s:=ev) Y).one;have o3:=(bm (s:=gv) Y).one;unfold cK;refine W ?_;refine jH (n:=5) (p:=r) (vs:=[E S.st,E S.bL,cv,ev,gv]) rfl rfl Y inferInstance rfl rfl (by simp only[ew,eN,o1,o2,o3];rfl) ?_;clear Y;intro w Y;refine W ?_;refine lO (p:=r) (vs:=[E S.st,E S.bL,cv,ev,gv]) rfl rfl (v':=er) rfl rfl (fun j v hv=>lM (i:=3) Y rfl hv) ⟨cv,ev,gv,nS,[],j',rfl,fun _ h=>absurd h U,?_⟩;have h2:M w0 w (X O 3 cv S.aT::X aM 190 ev S.aB::X ah 4 gv S.aR::ak D 164 [vv,nS,H,.bool j']::Γ):=Y.cq;have h3:=M.rd (Δ:=[_,_,_]) (φ:=fun w=>cV w cv ev gv S) (fun _ _ h=>⟨h.rs 0 rfl,h.rs 1 rfl,h.rs 2 rfl⟩) h2;have o:M w0 w (bj (kt [] [])::_):=M.pN (fun w=>kt.nil) h3;have q:=o.nil (T:=fq) (e:=201);exact q.cq
 refine W ?_;have _y:0<n:=U;refine aU rfl (Ě (n:=(M':Int)) U U) ?_;refine MN ?_;intro p w Y;obtain⟨pc,rfl⟩:=À p;have _l:M w0 w (ak pc 142 [E (nw t M' 0).eE.st,E (nw t M' 0).eE.bL,nS,nS,nS]::ak D 164 [vv,nS,H,.bool j']::X fq 201 (nS) []::bj (kt [] (nw t M' 0).eI)::bj (fun w=>cV w (nS) (nS) (nS) (nw t M' 0).eE)::ak r 142 [E 0,E 0,nS,nS,nS]::ak pt 26 [a,b,c,d]::Γ):=by
  have f:M w0 w (bj (fun w=>cV w (nS) (nS) (nS) cA)::_):=M.pN (fun w=>⟨RS.nil,RS.nil,RS.nil⟩) Y;have a2:M w0 w (bj (kt [] [])::_):=M.pN (fun w=>kt.nil) f;have a3:=a2.nil (T:=fq) (e:=201);have a4:M w0 w (ak pc 142 [E 0,E 0,nS,nS,nS]::ak D 164 [vv,nS,H,.bool j']::X fq 201 (nS) []::bj (kt [] [])::bj (fun w=>cV w (nS) (nS) (nS) cA)::ak r 142 [E 0,E 0,nS,nS,nS]::ak pt 26 [a,b,c,d]::Γ):=a3.cq;exact a4
 refine cN [9,9,12,18,30,153] (G:=Nat) (fun k=>[(30,E k)]) (fun k w=>k<=n/\(nw t M' k).vr=0/\(0<k->Ug t (nw t M' k) k)/\∃ sv ms ex cc ce cg,M w0 w (ak pc 142 [E (nw t M' k).eE.st,E (nw t M' k).eE.bL,cc,ce,cg]::ak D 164 [vv,sv,H,.bool ex]::X fq 201 sv ms::bj (kt ms (nw t M' k).eI)::bj (fun w=>cV w cc ce cg (nw t M' k).eE)::ak r 142 [E 0,E 0,nS,nS,nS]::ak pt 26 [a,b,c,d]::Γ)) (fun k=>n-k) 0 (fun _=>rfl) ⟨rfl,au⟩ ⟨br _,rfl,fun h=>absurd h U,_,_,_,_,_,_,_l⟩ ?_;clear Y _l;rintro _ k w ⟨_z,_b,_g,sv,ms,ex,cc,ce,cg,Y⟩;obtain⟨f,hX⟩:=À (nw t M' k);rw[<-hX]at _b _g Y;refine aA ?_ ?_<;>intro h2;rotate_left
 ·have hk:k=n:=U
  have o:lB t M' n=f:=by rw[hX,hk];unfold nw;rw[aH U]
  rw[o,_b];have o1:=(Y.cU 4 rfl).mh;refine iC ?_;intro w Y;exact lO (p:=r) (vs:=[E f.eE.st,E f.eE.bL,cc,ce,cg]) rfl rfl (v':=bO 0) (by rw[gy rfl];rfl) rfl (fun j v hv=>lM (i:=5) Y rfl hv) ⟨cc,ce,cg,sv,ms,ex,rfl,fun _ _=>by rw[<-hk];exact _g U,Y.cq⟩
 have _r:k<n:=U;have H':∀ LL Q,Q≠0->nw t M' (k+1)=⟨cA,LL,Q⟩->lB t M' n=⟨cA,LL,Q⟩:=fun LL Q h1 h2=>by
  rw[<-h2,<-Mz (succ_pos k) (by rw[h2];exact h1) n U];unfold nw;rw[aH U]
 have _s:=K_ _r;refine W ?_;rw[_s];refine W ?_;refine aU rfl (J_ (v:=(k:Int)) (ht.at Y)) ?_;rintro _ w' ⟨R,V,ag,rfl,an⟩;refine qM ?_;clear an Y;intro Y;by_cases he:cO t [(k:Int)]=0;rotate_left
 ·have z:nw t M' (k+1)=⟨cA,f.eI,cO t [(k:Int)]⟩:=by
   rcases uC k with m|m
   ·subst m
    rw[Mx,hX];unfold pC;rw[aP (by simpa using he)];rfl
   rw[My m,<-hX];unfold pD;rw[aH (by rw[_b];exact fun h=>h rfl),aP he]
  have m:lB t M' n=⟨cA,f.eI,cO t [(k:Int)]⟩:=by
   rw[<-z,<-Mz (succ_pos k) (by rw[z];exact he) n U];unfold nw;rw[aH U]
  have hA:kw t [(k:Int)] (cO t [(k:Int)])=cA:=by unfold kw;rw[aH he]
  rw[hA]at Y ⊢;obtain⟨Q,q⟩:=À (cO t [(k:Int)]);obtain⟨LL,y⟩:=À f.eI;rw[<-q]at he m ⊢;rw[<-y]at Y m;have o:=he;rw[dq he];simp only[qA,kq]at Y;have o1:=(bm (s:=R) Y).one;have o2:=(bm (s:=V) Y).one;have o3:=(bm (s:=ag) Y).one;unfold cK;refine c9 ?_;intro p w Y;refine jH (n:=5) (p:=p) (vs:=[E cA.st,E cA.bL,R,V,ag]) rfl rfl Y inferInstance rfl rfl (by simp only[ew,eN,o1,o2,o3];rfl) ?_;clear Y;intro w Y;refine W ?_;rw[m];have Y:M w0 w (ak r 142 [E 0,E 0,nS,nS,nS]::ak D 164 [vv,sv,H,.bool ex]::X fq 201 sv ms::bj (kt ms LL)::Γ):=Y.cq;refine lA (parts:=[]) (vs:=[]) rfl rfl rfl ?_;refine iC ?_;intro w Y;refine lO (p:=r) (vs:=[E 0,E 0,nS,nS,nS]) rfl rfl (v':=bO Q) (by rw[dq o];rfl) rfl (fun j v hv=>lM (i:=0) Y rfl hv) ⟨nS,nS,nS,sv,ms,ex,rfl,fun h=>absurd h o,?_⟩;have h9:M w0 _ (bj (fun w=>cV w (nS) (nS) (nS) cA)::_):=M.pN (fun w=>⟨RS.nil,RS.nil,RS.nil⟩) Y;exact h9.cq
 rw[gy he];have hA:kw t [(k:Int)] (cO t [(k:Int)])=dV t [(k:Int)]:=by rw[he];rfl
 have J':1<=(dV t [(k:Int)]).st/\(dV t [(k:Int)]).st<=4096:=by
  rw[Uf I U];have:=I.nt k U;omega
 have _h:=Uf (v:=k) I U;rw[hA]at Y ⊢;obtain⟨A,_c⟩:=À (dV t [(k:Int)]);rw[<-_c]at J' _h Y ⊢;simp only[qA,kq]at Y;have o1:=(bm (s:=R) Y).one;have o2:=(bm (s:=V) Y).one;have o3:=(bm (s:=ag) Y).one;unfold cK;refine c9 ?_;intro p w Y;refine jH (n:=5) (p:=p) (vs:=[E A.st,E A.bL,R,V,ag]) rfl rfl Y inferInstance rfl rfl (by simp only[ew,eN,o1,o2,o3];rfl) ?_;clear Y;intro w Y;obtain⟨R',rfl⟩:=À p;refine c9 ?_;intro pg w Y;have Y:M w0 w (ak pg 201 [E k,nS,nS,E 0]::ak R' 142 [E A.st,E A.bL,R,V,ag]::X O 3 R A.aT::X aM 190 V A.aB::X ah 4 ag A.aR::ak pc 142 [E f.eE.st,E f.eE.bL,cc,ce,cg]::ak D 164 [vv,sv,H,.bool ex]::X fq 201 sv ms::bj (kt ms f.eI)::bj (fun w=>cV w cc ce cg f.eE)::ak r 142 [E 0,E 0,nS,nS,nS]::ak pt 26 [a,b,c,d]::Γ):=Y;have Y:M w0 w (X O 3 R A.aT::X aM 190 V A.aB::X ah 4 ag A.aR::ak D 164 [vv,sv,H,.bool ex]::ak pg 201 [E k,nS,nS,E 0]::ak R' 142 [E A.st,E A.bL,R,V,ag]::ak pc 142 [E f.eE.st,E f.eE.bL,cc,ce,cg]::X fq 201 sv ms::bj (kt ms f.eI)::bj (fun w=>cV w cc ce cg f.eE)::ak r 142 [E 0,E 0,nS,nS,nS]::ak pt 26 [a,b,c,d]::Γ):=Y.cq;have Y:=M.rd (Δ:=[_,_,_]) (φ:=fun w=>cV w R V ag A) (fun _ _ h=>⟨h.rs 0 rfl,h.rs 1 rfl,h.rs 2 rfl⟩) Y;have oA:=(Y.cU 0 rfl).mh;refine jy ?_ ?_<;>intro h3
 ·have P:k=0:=U
  have P':f=⟨cA,[],0⟩:=by rw[hX,P];rfl
  refine W ?_;have T':M w0 w (ak D 164 [vv,sv,H,.bool ex]::bj (fun w=>cV w R V ag A)::ak pg 201 [E k,nS,nS,E 0]::ak R' 142 [E A.st,E A.bL,R,V,ag]::ak pc 142 [E f.eE.st,E f.eE.bL,cc,ce,cg]::X fq 201 sv ms::bj (kt ms f.eI)::bj (fun w=>cV w cc ce cg f.eE)::ak r 142 [E 0,E 0,nS,nS,nS]::ak pt 26 [a,b,c,d]::Γ):=Y.cq;refine aU rfl (Mw (S:=A) (most:=(M':Int)) T' hT ⟨U,J'.2⟩) ?_;clear Y T';rintro _ w ⟨yv,ye,yg,qv,ex,rfl,Y⟩;refine⟨_,rfl,?_⟩;obtain⟨er,N⟩:=À (cI A (M':Int));obtain⟨S,hS⟩:=À (dU A (M':Int));obtain⟨C,hC⟩:=À (fU A (M':Int));rw[<-N];rw[<-hS,<-hC]at Y;rw[<-hS];have oS:=(Y.cU 2 rfl).mh;unfold cK;by_cases u:er=0;rotate_left
  ·have m:lB t M' n=⟨cA,f.eI,er⟩:=by
    have z:nw t M' (k+1)=⟨cA,f.eI,er⟩:=by
     subst P;rw[Mx,P'];unfold pC;have e1:cO t [(0:Int)]=0:=by simpa using he
     have e2:dV t [(0:Int)]=A:=by rw[_c];rfl
     rw[aH (fun h=>h e1),e2,<-N,aP u]
    rw[<-z,<-Mz (succ_pos k) (by rw[z];exact u) n U];unfold nw;rw[aH U]
   have o:er≠0:=u;obtain⟨Q,q⟩:=À er;obtain⟨LL,y⟩:=À f.eI;rw[<-q]at m o ⊢;rw[<-y]at Y m;rw[dq o];refine iC ?_;intro w Y;rw[m];have Y:M w0 w (ak r 142 [E 0,E 0,nS,nS,nS]::ak D 164 [vv,sv,H,.bool ex]::X fq 201 sv ms::bj (kt ms LL)::Γ):=Y.cq;refine lA (parts:=[]) (vs:=[]) rfl rfl rfl ?_;refine iC ?_;intro w Y;refine lO (p:=r) (vs:=[E 0,E 0,nS,nS,nS]) rfl rfl (v':=bO Q) (by rw[dq o];rfl) rfl (fun j v hv=>lM (i:=0) Y rfl hv) ⟨nS,nS,nS,sv,ms,ex,rfl,fun h=>absurd h o,?_⟩;have h9:M w0 _ (bj (fun w=>cV w (nS) (nS) (nS) cA)::_):=M.pN (fun w=>⟨RS.nil,RS.nil,RS.nil⟩) Y;exact h9.cq
  rw[gy u];refine iC ?_;intro w Y;simp only[mM,mJ]at Y;refine fQ (pl [0,1,2,3,4,5,6] (.cJ 4::pl [7,8,9,10] [])) Y kr ?_;clear Y;intro w Y;refine W ?_;refine jG fq (x1:=⟨(k:Int),qv,nS,S.st⟩) rfl rfl rfl (fX rfl) (fb _) Y ?_;clear Y;intro s2 w Y;refine W ?_;have _d:=(Y.cU 8 rfl).len;rw[P']at _d;have _d:ms.length=0:=_d;have oq:=(bm (s:=qv) Y).one;have _i:=oq;refine rV (T:=fq) (sz:=4) (by_:=64) (e:=201) (zs:=[E 0,nS,nS,E 0]) (s:=sv) (s2:=s2) (xs:=ms) (ys:=[⟨(k:Int),qv,nS,S.st⟩]) inferInstance rfl rfl (bm Y) rfl rfl (fun x hx v hv=>by rw[dp.1 hx]at hv;simp only[fq,dZ,fM,pL]at hv;rcases hv with rfl|rfl|rfl|rfl<;>first|rfl|exact oq|exact _i) (by simp only[length_cons,length_nil];omega) (by unfold bT;simp only[length_cons,length_nil];omega) Y ?_;clear Y;intro s3 w Y;refine iC ?_;intro w Y;simp only[mM,mJ]at Y;have z:=xu J'.1 (N.symm.trans u);rw[<-hS,<-hC]at z;have K:nw t M' (k+1)=⟨S,f.eI++[⟨(k:Int),C,[],S.st⟩],0⟩:=by
   have e0:(k:Int)=0:=U;have e1:cO t [(0:Int)]=0:=by have h:=he;rw[e0]at h;exact h
   have e2:dV t [(0:Int)]=A:=by rw[_c,e0]
   rw[P',P,Mx];unfold pC;rw[aH (fun h=>h e1),e2,<-N,aH (fun h=>h u),<-hS,<-hC];rfl
  refine⟨k+1,⟨rfl,au⟩,aV,⟨U,by rw[K],fun _=>?_,s3,ms++[⟨(k:Int),qv,nS,S.st⟩],ex,yv,ye,yg,?_⟩,U⟩
  ·rw[K]
   exact⟨z.qE,rO z.sA J'.2,by rw[P'];exact Ch.one ⟨(k:Int),C,[],S.st⟩ (by show (k:Int)=0;omega) (by show (C.length:Int)=_;rw[z.len,_h,P]) z.dC U,by rw[P',P];rfl⟩
  rw[K];have Y:M w0 w (X O 3 qv C::bj (kt ms f.eI)::ak pc 142 [E S.st,E S.bL,yv,ye,yg]::ak D 164 [vv,s3,H,.bool ex]::X fq 201 s3 (ms++[⟨(k:Int),qv,nS,S.st⟩])::bj (fun w=>cV w yv ye yg S)::ak r 142 [E 0,E 0,nS,nS,nS]::ak pt 26 [a,b,c,d]::Γ):=Y.cq;have h2:M w0 w (bj (kt (ms++[⟨(k:Int),qv,nS,S.st⟩]) (f.eI++[⟨(k:Int),C,[],S.st⟩]))::_):=M.rd (Δ:=[_,_]) (fun _ _ h=>(h.cU 1 rfl).fe rfl rfl (h.rs 0 rfl) RS.nil) Y;exact h2.cq
 have _m:0<k:=U;obtain⟨x1,x2,x3,x4⟩:=_g _m;refine W ?_;have _A:0<=f.eE.st*A.st:=tj U U;have _B:f.eE.st*A.st<=4096*4096:=zP x2 J'.2 U U;have _C : -9223372036854775808<=f.eE.st*A.st:=U;have _D:f.eE.st*A.st<=9223372036854775807:=U;refine fQ (pl [0,1,2,3,4,5] []) Y kr ?_;clear Y;intro w Y
 repeat (first|refine A9 ?_|refine Cf ?_|refine D8 ?_|refine zZ ?_|refine D1 ?_|refine zO ?_|refine Co ?_)
 refine vt ?_;have Y:M w0 w (ak D 164 [vv,sv,H,.bool ex]::bj (fun w=>cV w cc ce cg f.eE)::bj (fun w=>cV w R V ag A)::ak pg 201 [E k,nS,nS,E 0]::ak R' 142 [E A.st,E A.bL,R,V,ag]::ak pc 142 [E f.eE.st,E f.eE.bL,cc,ce,cg]::X fq 201 sv ms::bj (kt ms f.eI)::ak r 142 [E 0,E 0,nS,nS,nS]::ak pt 26 [a,b,c,d]::Γ):=Y.cq;refine th [17,18,79,103] (G:=Int × Int) (fun x=>[(17,E x.1),(18,E x.2)]) (fun x w=>x=um (M':Int) f.eE.st A.st/\M w0 w (ak D 164 [vv,sv,H,.bool ex]::bj (fun w=>cV w cc ce cg f.eE)::bj (fun w=>cV w R V ag A)::ak pg 201 [E k,nS,nS,E 0]::ak R' 142 [E A.st,E A.bL,R,V,ag]::ak pc 142 [E f.eE.st,E f.eE.bL,cc,ce,cg]::X fq 201 sv ms::bj (kt ms f.eI)::ak r 142 [E 0,E 0,nS,nS,nS]::ak pt 26 [a,b,c,d]::Γ)) (fun _=>rfl) ?_ ?_
 ·refine aA ?_ ?_<;>intro g1
  rotate_left
  ·refine W ?_
   exact⟨(f.eE.st,A.st),⟨rfl,rfl,au⟩,aV,by unfold um;rw[aH U],Y⟩
  refine aA ?_ ?_<;>intro g2
  ·refine W ?_
   exact⟨(f.eE.st,(M':Int).tdiv f.eE.st),⟨rfl,rfl,au⟩,aV,by unfold um;rw[aP U,aP U],Y⟩
  refine aA ?_ ?_<;>intro g3
  ·refine W ?_
   exact⟨((M':Int).tdiv A.st,A.st),⟨rfl,rfl,au⟩,aV,by unfold um;rw[aP U,aH U,aP U],Y⟩
  refine W ?_;exact⟨(ka (M':Int),ka (M':Int)),⟨rfl,rfl,au⟩,aV,by unfold um;rw[aP U,aH U,aH U],Y⟩
 clear Y;rintro _ z w ⟨_t,Y⟩
 have K:nw t M' (k+1)=if cI f.eE z.1≠0 then ⟨cA,f.eI,cI f.eE z.1⟩ else if cI A z.2≠0 then ⟨cA,f.eI,cI A z.2⟩ else if dA (dU f.eE z.1) (dU A z.2)≠0 then ⟨cA,f.eI++[⟨(k:Int),fU A z.2,fU f.eE z.1,(dU A z.2).st⟩],dA (dU f.eE z.1) (dU A z.2)⟩ else ⟨jk (dU f.eE z.1) (dU A z.2),f.eI++[⟨(k:Int),fU A z.2,fU f.eE z.1,(dU A z.2).st⟩],0⟩:=by
  rw[My _m,<-hX,_t,_c];unfold pD;rw[aH (fun h=>h _b),aH (fun h=>h he)]
 have oX:=(Y.cU 1 rfl).mh;refine W ?_;refine aU rfl (Mw (S:=f.eE) (most:=z.1) Y hT ⟨U,x2⟩) ?_;clear Y;rintro _ w ⟨yv,ye,yg,qv,ex,rfl,Y⟩;refine⟨_,rfl,?_⟩;obtain⟨er,N⟩:=À (cI f.eE z.1);obtain⟨S,hS⟩:=À (dU f.eE z.1);obtain⟨C,hC⟩:=À (fU f.eE z.1);rw[<-N]at K ⊢;rw[<-hS,<-hC]at Y K;rw[<-hS];have oS:=(Y.cU 2 rfl).mh;unfold cK;by_cases u:er=0;rotate_left
 ·rw[aP u]at K
  have m:=H' _ _ u K;obtain⟨Q,q⟩:=À er;obtain⟨LL,y⟩:=À f.eI;have o:Q≠0:=by rw[q];exact u
  rw[<-q]at m ⊢;rw[<-y]at Y m;rw[dq o];refine iC ?_;intro w Y;rw[m];have Y:M w0 w (ak r 142 [E 0,E 0,nS,nS,nS]::ak D 164 [vv,sv,H,.bool ex]::X fq 201 sv ms::bj (kt ms LL)::Γ):=Y.cq;refine lA (parts:=[]) (vs:=[]) rfl rfl rfl ?_;refine iC ?_;intro w Y;refine lO (p:=r) (vs:=[E 0,E 0,nS,nS,nS]) rfl rfl (v':=bO Q) (by rw[dq o];rfl) rfl (fun j v hv=>lM (i:=0) Y rfl hv) ⟨nS,nS,nS,sv,ms,ex,rfl,fun h=>absurd h o,?_⟩;have h9:M w0 _ (bj (fun w=>cV w (nS) (nS) (nS) cA)::_):=M.pN (fun w=>⟨RS.nil,RS.nil,RS.nil⟩) Y;exact h9.cq
 rw[aH (fun h=>h u)]at K;have V':=xu x1 (N.symm.trans u);rw[<-hS,<-hC]at V';rw[gy u];refine iC ?_;intro w Y;simp only[mM,mJ]at Y;have Y:M w0 w (ak D 164 [vv,sv,H,.bool ex]::bj (fun w=>cV w R V ag A)::X O 3 qv C::bj (fun w=>cV w yv ye yg S)::ak pg 201 [E k,nS,qv,E 0]::ak R' 142 [E A.st,E A.bL,R,V,ag]::ak pc 142 [E S.st,E S.bL,yv,ye,yg]::X fq 201 sv ms::bj (kt ms f.eI)::ak r 142 [E 0,E 0,nS,nS,nS]::ak pt 26 [a,b,c,d]::Γ):=Y.cq;refine aU rfl (Mw (S:=A) (most:=z.2) Y hT ⟨U,J'.2⟩) ?_;clear Y;rintro _ w ⟨zv,ze,zg,rv,ex,rfl,Y⟩;refine⟨_,rfl,?_⟩;obtain⟨_n,_f⟩:=À (cI A z.2);obtain⟨P,_j⟩:=À (dU A z.2);obtain⟨C2,_o⟩:=À (fU A z.2);rw[<-_f]at K ⊢;rw[<-_j,<-_o]at Y K;rw[<-_j];have _E:=(Y.cU 2 rfl).mh;unfold cK;by_cases T':_n=0;rotate_left
 ·rw[aP T']at K
  have m:=H' _ _ T' K;obtain⟨Q,q⟩:=À _n;obtain⟨LL,y⟩:=À f.eI;have o:Q≠0:=by rw[q];exact T'
  rw[<-q]at m ⊢;rw[<-y]at Y m;rw[dq o];refine iC ?_;intro w Y;rw[m];have Y:M w0 w (ak r 142 [E 0,E 0,nS,nS,nS]::ak D 164 [vv,sv,H,.bool ex]::X fq 201 sv ms::bj (kt ms LL)::Γ):=Y.cq;refine lA (parts:=[]) (vs:=[]) rfl rfl rfl ?_;refine iC ?_;intro w Y;refine lO (p:=r) (vs:=[E 0,E 0,nS,nS,nS]) rfl rfl (v':=bO Q) (by rw[dq o];rfl) rfl (fun j v hv=>lM (i:=0) Y rfl hv) ⟨nS,nS,nS,sv,ms,ex,rfl,fun h=>absurd h o,?_⟩;have h9:M w0 _ (bj (fun w=>cV w (nS) (nS) (nS) cA)::_):=M.pN (fun w=>⟨RS.nil,RS.nil,RS.nil⟩) Y;exact h9.cq
 rw[aH (fun h=>h T')]at K;have _e:=xu J'.1 (_f.symm.trans T');rw[<-_j,<-_o]at _e;rw[gy T'];refine iC ?_;intro w Y;simp only[mM,mJ]at Y;refine fQ (pl [0,1,2,3,4,5,6] (.cJ 4::pl [7,8,9,10] [])) Y kr ?_;clear Y;intro w Y;refine W ?_;refine jG fq (x1:=⟨(k:Int),rv,qv,P.st⟩) rfl rfl rfl (fX rfl) (fb _) Y ?_;clear Y;intro s2 w Y;refine W ?_;have _d:ms.length=f.eI.length:=(show kt ms f.eI w from Y.cU 10 rfl).len;have oq:=(bm (s:=qv) Y).one;have _i:=(bm (s:=rv) Y).one;refine rV (T:=fq) (sz:=4) (by_:=64) (e:=201) (zs:=[E 0,nS,nS,E 0]) (s:=sv) (s2:=s2) (xs:=ms) (ys:=[⟨(k:Int),rv,qv,P.st⟩]) inferInstance rfl rfl (bm Y) rfl rfl (fun x hx v hv=>by rw[dp.1 hx]at hv;simp only[fq,dZ,fM,pL]at hv;rcases hv with rfl|rfl|rfl|rfl<;>first|rfl|exact oq|exact _i) (by simp only[length_cons,length_nil];omega) (by unfold bT;simp only[length_cons,length_nil];omega) Y ?_;clear Y;intro sv w Y;refine iC ?_;intro w Y;simp only[mM,mJ]at Y;have Y:M w0 w (X O 3 rv C2::X O 3 qv C::bj (kt ms f.eI)::bj (fun w=>cV w yv ye yg S)::bj (fun w=>cV w zv ze zg P)::ak pc 142 [E S.st,E S.bL,yv,ye,yg]::ak D 164 [vv,sv,H,.bool ex]::X fq 201 sv (ms++[⟨(k:Int),rv,qv,P.st⟩])::ak r 142 [E 0,E 0,nS,nS,nS]::ak pt 26 [a,b,c,d]::Γ):=Y.cq;have Y:=M.rd (Δ:=[_,_,_]) (φ:=kt (ms++[⟨(k:Int),rv,qv,P.st⟩]) (f.eI++[⟨(k:Int),C2,C,P.st⟩])) (fun _ _ h=>(h.cU 2 rfl).fe rfl rfl (h.rs 0 rfl) (h.rs 1 rfl)) Y;obtain⟨ms,_u⟩:=À (ms++[⟨(k:Int),rv,qv,P.st⟩])
 obtain⟨LL,y⟩:=À (f.eI++[⟨(k:Int),C2,C,P.st⟩]);rw[<-_u,<-y]at Y;rw[<-y]at K;refine aU rfl (Yh (A:=S) (B:=P) (Y.cU 1 rfl) (Y.cU 2 rfl)) ?_;rintro _ w' ⟨uv,ue,ug,rfl,an⟩;refine qM ?_;clear an Y;intro Y;simp only[qA,kq]at Y;obtain⟨_p,_a⟩:=À (dA S P);obtain⟨S3,_k⟩:=À (jk S P);rw[<-_a,<-_k]at K ⊢;rw[<-_k]at Y;have o1:=(bm (s:=uv) Y).one;have o2:=(bm (s:=ue) Y).one;have o3:=(bm (s:=ug) Y).one;unfold cK;by_cases P':_p=0;rotate_left
 ·rw[aP P']at K
  have m:=H' _ _ P' K;obtain⟨Q,q⟩:=À _p;have o:Q≠0:=by rw[q];exact P'
  rw[<-q]at m ⊢;rw[dq o];refine W ?_;refine jH (n:=5) (p:=pc) (vs:=[E S3.st,E S3.bL,uv,ue,ug]) rfl rfl Y inferInstance rfl rfl (by simp only[ew,eN,o1,o2,o3];rfl) ?_;clear Y;intro w Y;refine W ?_;rw[m];have Y:M w0 w (ak r 142 [E 0,E 0,nS,nS,nS]::ak D 164 [vv,sv,H,.bool ex]::X fq 201 sv ms::bj (kt ms LL)::Γ):=Y.cq;refine lA (parts:=[]) (vs:=[]) rfl rfl rfl ?_;refine iC ?_;intro w Y;refine lO (p:=r) (vs:=[E 0,E 0,nS,nS,nS]) rfl rfl (v':=bO Q) (by rw[dq o];rfl) rfl (fun j v hv=>lM (i:=0) Y rfl hv) ⟨nS,nS,nS,sv,ms,ex,rfl,fun h=>absurd h o,?_⟩;have h9:M w0 _ (bj (fun w=>cV w (nS) (nS) (nS) cA)::_):=M.pN (fun w=>⟨RS.nil,RS.nil,RS.nil⟩) Y;exact h9.cq
 rw[aH (fun h=>h P')]at K;rw[gy P'];refine W ?_;refine jH (n:=5) (p:=pc) (vs:=[E S3.st,E S3.bL,uv,ue,ug]) rfl rfl Y inferInstance rfl rfl (by simp only[ew,eN,o1,o2,o3];rfl) ?_;clear Y;intro w Y;refine W ?_;have j:S3.st=S.st*P.st:=by rw[_k];unfold jk;rw[aP (_a.symm.trans P')]
 have m:S.st*P.st<=4096:=by
  have h:=_a.symm.trans P';unfold dA at h;by_cases c1:dP S/\dP P/\S.aT=P.aT
  ·rw[aP c1]at h
   by_cases c2:4096<S.st*P.st
   ·rw[aP c2]at h;exact absurd h dc
   omega
  rw[aH c1]at h;exact absurd h dc
 have o:1*1<=S.st*P.st:=zP V'.qE _e.qE U (by have:=V'.qE;omega);refine⟨k+1,⟨rfl,au⟩,aV,⟨U,by rw[K],fun _=>?_,sv,ms,ex,uv,ue,ug,?_⟩,U⟩
 ·rw[K]
  refine⟨by show 1<=S3.st;omega,by show S3.st<=4096;omega,?_,by show LL.length=k+1;rw[y,length_append,x4];rfl⟩;show Ch t.vars LL S3.st;rw[j,y];exact Ch.fe f.eI f.eE.st S.st ⟨(k:Int),C2,C,P.st⟩ x3 (by show (k:Int)=_;rw[x4]) (by show (C2.length:Int)=_;rw[_e.len,_h,x4]) _e.dC (by rw[x4];omega) V'.len V'.dC m
 rw[K];have h1:M w0 w (X O 3 uv S3.aT::X aM 190 ue S3.aB::X ah 4 ug S3.aR::ak pc 142 [E S3.st,E S3.bL,uv,ue,ug]::ak D 164 [vv,sv,H,.bool ex]::X fq 201 sv ms::bj (kt ms LL)::ak r 142 [E 0,E 0,nS,nS,nS]::ak pt 26 [a,b,c,d]::Γ):=Y.cq;have h2:=M.rd (Δ:=[_,_,_]) (φ:=fun w=>cV w uv ue ug S3) (fun _ _ h=>⟨h.rs 0 rfl,h.rs 1 rfl,h.rs 2 rfl⟩) h1;exact h2.cq
def Ch.step {vars:J}{L:List kA}{n:Int}(h:Ch vars L n):∀ k,k<L.length->∃ y,y=L.getD k ⟨0,[],[],0⟩/\L.take (k+1)=L.take k++[y]/\y.var=(k:Int)/\((y.dQ.length:Int)=vars.getD k O.dflt)/\(∀ i:Nat,i<y.dQ.length->0<=y.dQ.getD i O.dflt/\y.dQ.getD i O.dflt<y.eI)/\k<vars.length/\(0<k->∃ o m,Ch vars (L.take k) o/\((y.oh.length:Int)=o)/\(∀ i:Nat,i<y.oh.length->0<=y.oh.getD i O.dflt/\y.oh.getD i O.dflt<m)/\m*y.eI<=4096):=by
 induction h with
 | one x hv d f g =>
  intro k hk;have:k=0:=by simp at hk;omega
  subst this
  exact⟨x,rfl,rfl,hv,d,f,g,fun h=>absurd h U⟩
 | fe l n m y h hv d f g q j hm r =>
  intro k hk;by_cases c:k<l.length
  ·obtain⟨z,h1,u,v⟩:=r k c
   refine⟨z,?_,?_,?_⟩
   ·rw[h1,Ir,aP c]
   ·rw[yk U,yk U];exact u
   rw[yk U];exact v
  rw[length_append,tr]at hk;have e:k=l.length:=U;subst e;refine⟨y,?_,?_,hv,d,f,g,fun _=>⟨n,m,?_,q,j,hm⟩⟩
  ·rw[Ir,aH c,aP rfl]
  ·rw[yk (cz _),lL]
   have:l.length+1=(l++[y]).length:=by rw[length_append];rfl
   rw[this,lL]
  rw[yk (cz _),lL];exact h
def kt.at {w0 w:World}{Γ:List HP}{ms:List w5}{L:List kA}(h:kt ms L w0)(Y:M w0 w Γ):kt ms L w:=⟨h.len,h.var,h.eI,fun i b=>(h.dQ i b).at Y,fun i b=>(h.oh i b).at Y⟩
def vJ (w:World)(p:Addr)(t:aa)(L:List kA)(D:J):Prop:=∃ b c d e ms,dO w p [b,c,d,e]/\RS O w b t.vars/\RS fq w c ms/\kt ms L w/\RS O w d D
def vJ.at {w0 w:World}{Γ:List HP}{p:Addr}{t:aa}{L:List kA}{D:J}(h:vJ w0 p t L D)(Y:M w0 w Γ):vJ w p t L D:=by
 obtain⟨b,c,d,e,ms,h1,f,g,i,j⟩:=h;exact⟨b,c,d,e,ms,h1.at Y,f.at Y,g.at Y,i.at Y,j.at Y⟩
def Zo {p:Addr}{D:J}{z:Value}{s:J}(g:vJ w0 p t L D)(hk:∀ k,k<L.length->∃ n,Ch t.vars L n)(hD:0<=nZ s L/\nZ s L<D.length)(F:RS O w0 z s)(bI:ab t.vars s) :
  Calls aj 331 #[.pointer (some p),z] w0 fun e w'=>e=.returned (E (D.getD (nZ s L).toNat O.dflt))/\M w0 w' []:=by
 obtain⟨vv,sv,dv,xb,ms,h1,H,K,d,h5⟩:=g;have N:=d.len;have P:=K.bT;have Q:=bI.1;have Y:=M.start w0;refine bB ao Tryz.func331 ?_;refine W ?_;refine aU rfl (yi H (F.at Y)) ?_;rintro _ w' ⟨⟨r,rfl,g⟩,an⟩;refine aI ?_;clear an Y;intro Y;have h:r=true:=g.2 bI;subst h;refine W ?_;refine cN [5,8,25,52] (G:=Nat) (fun k=>[(25,E k),(5,E (nZ s (L.take k)))]) (fun k w=>k<=L.length/\M w0 w []) (fun k=>L.length-k) 0 (fun _=>rfl) ⟨rfl,rfl,au⟩ ⟨br _,Y⟩ ?_;clear Y;rintro σ k w ⟨R,Y⟩;refine aA ?_ ?_<;>intro g1;rotate_left
 ·have b:k=L.length:=U
  rw[b,lL];refine W ?_;exact bk (v:=E (D.getD (nZ s L).toNat O.dflt)) rfl rfl ⟨rfl,Y.bb⟩
 have b:k<L.length:=U;obtain⟨n,i⟩:=hk k b;obtain⟨y,S,f,c,T,j,V,o⟩:=i.step k b;have m1:=d.var k b;have m2:=d.eI k b;have m3:=d.dQ k b;have m4:=d.oh k b;rw[<-S]at m1 m2 m3 m4;rw[c]at m1;obtain⟨m,hm⟩:=À (ms.getD k fq.dflt);rw[<-hm]at m1 m2 m3 m4;obtain⟨mv,A,B,mt⟩:=m;have m1:mv=(k:Int):=m1;have m2:mt=y.eI:=m2;have m3:RS O w0 A y.dQ:=m3;have m4:RS O w0 B y.oh:=m4;subst m1 m2;have o3:=m3.one;have o4:=m4.one;refine c9 ?_;intro p w Y;rw[<-hm];refine jH (n:=4) (p:=p) (vs:=[E k,A,B,E y.eI]) rfl rfl Y inferInstance rfl rfl (by simp only[ew,eN,o3,o4];rfl) ?_;clear Y;intro w Y;have j':=bI.2 k U;refine W ?_;refine fQ (pl [0,1,2,3,4,5,6,7,8,9] []) Y kr ?_;clear Y;intro w Y;refine aA ?_ ?_<;>intro g2
 ·have q:k=0:=U
  subst q;refine W ?_;have x:nZ s (L.take (0+1))=y.dQ.getD (s.getD 0 O.dflt).toNat O.dflt:=by
   rw[f];show y.dQ.getD (s.getD y.var.toNat O.dflt).toNat O.dflt=_;rw[c];rfl
  exact⟨0+1,⟨rfl,by rw[x];rfl,au⟩,aV,⟨U,Y.bb⟩,U⟩
 have q:0<k:=U;obtain⟨n',M',C,b2,b3,b4⟩:=o q;have b5:=C.at bI;have b6:=b3 (nZ s (L.take k)).toNat U;have b7:=j (s.getD k O.dflt).toNat U;have x:nZ s (L.take (k+1))=y.oh.getD (nZ s (L.take k)).toNat O.dflt*y.eI+y.dQ.getD (s.getD k O.dflt).toNat O.dflt:=by
  rw[f,Mv C.ne,c];rfl
 obtain⟨u,hu⟩:=À (y.oh.getD (nZ s (L.take k)).toNat O.dflt);have b8:0<=u*y.eI:=tj U U;have b9:(u+1)*y.eI<=M'*y.eI:=yt U U;rw[zH,Dh]at b9;have c1 : -9223372036854775808<=u*y.eI:=U;have c2:u*y.eI<=9223372036854775807:=U;refine W ?_;refine fQ (pl [0,1,2,3,4,5,6,7,8,9,10] []) Y kr ?_;clear Y;intro w Y;refine W ?_;rw[<-hu];refine W ?_;exact⟨k+1,⟨rfl,by rw[x,<-hu];rfl,au⟩,aV,⟨U,Y.bb⟩,U⟩
def L_ (b:Addr)(a:Value)(L:J)(c d:World):Prop:=(c.cell? b=some a->d.cell? b=some a)/\(RS O c a L->RS O d a L)
def BD (x:Int):Array Value:=#[E x]
def VC {n:Nat}{e:Addr}{L:J}(u:w0.cell? e=some a)(g:RS O w0 a L) :
  SeqStopsK (α:=Int) Fence.wide n aj 113 #[.pointer (some e)] BD (L_ e a L) (fun xs=>xs=L) (fun _=>True) L.length w0:=by
 intro l b D v x F A B y;refine(callsIn_wide (n:=n)).2 ?_;have c:v.cell? e=some a:=by
  have d:e.block<w0.heap.size:=by
   rcases ns e.block w0.heap.size with h|h
   ·exact h
   simp[World.cell?,tI h]at u
  rw[x.cell d];exact u
 have d:RS O v a L:=⟨g.1.below x,g.2⟩
 have C:=g.bT;refine bB ao Tryz.func113 ?_;refine W ?_;refine rW rfl (wB rfl c) ?_;refine W ?_;refine cN [4,4,7,15] (G:=Nat) (fun k=>[(7,E k)]) (fun k w=>k<=L.length/\b (L.take k) w/\w.cell? e=some a/\RS O w a L) (fun k=>L.length-k) 0 (fun _=>rfl) ⟨rfl,au⟩ ⟨br _,y,c,d⟩ ?_;clear c d y;rintro H k w ⟨hk,i,c,d⟩;refine aA ?_ ?_<;>intro h1
 ·have f:k<L.length:=U
  have z:=B (L.take k) (L.getD k O.dflt) w i (by rw[jf];omega);have j:L.take k++[L.getD k O.dflt]=L.take (k+1):=by rw[GP,kP f,al f];rfl
  rw[j]at z;refine W ?_;refine O0 (l:=l) rfl rfl z ?_;rintro _ K (⟨rfl,m,o,q⟩|⟨rfl,r⟩)
  ·refine⟨_,rfl,?_⟩
   refine W ?_;exact⟨k+1,⟨rfl,au⟩,aV,⟨U,m,o c,q d⟩,U⟩
  refine⟨_,rfl,?_⟩;refine W ?_;exact JK rfl ⟨⟨_,rfl⟩,.inr ⟨_,au,r⟩⟩
 have f:k=L.length:=U;subst f;refine W ?_;rw[lL]at i;exact ti rfl ⟨⟨_,rfl⟩,.inl ⟨L,rfl,i⟩⟩
def VM :
  Calls aj 88 #[a] w0 fun e w'=>∃ b,e=.returned (.func (.func 113) #[] #[.pointer (some b)])/\M w0 w' [ak b 22 a.cells.toList]:=by
 have Y:=M.start w0;refine bB ao Tryz.func88 ?_;refine eB ?_;intro p w Y;exact bk (v:=.func (.func 113) #[] #[.pointer (some p)]) rfl rfl ⟨p,rfl,Y⟩
end
end Go.Proofs.YtmapkjoefdgjfaaGreatDoor
