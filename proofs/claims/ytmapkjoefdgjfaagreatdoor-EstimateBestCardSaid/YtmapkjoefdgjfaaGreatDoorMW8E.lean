/- Several texts. -/
import Derived.Test.YtmapkjoefdgjfaaGreatDoorMW7E
set_option linter.unusedSimpArgs false
set_option linter.unusedVariables false
set_option linter.defProp false
set_option maxRecDepth 8000
set_option maxHeartbeats 16000000
open List Nat
namespace Go.Proofs.YtmapkjoefdgjfaaGreatDoor
open Go.Sl
variable {w0 w:World}{t:aa}{most n:Int}{a:Value}{k:Nat}{l L:List kw}
section
open Go.Sl Go
attribute [local irreducible] vc opsW opsD opV opW PureV ReadV Thn Blk
def MM {Γ:List HP}{B:Addr}{vv sv D u y sg:Value}{ex:Bool}{S:bZ}(Y:Z w0 w (ak B 164 [vv,sv,D,.bool ex]::aZ (fun w=>cX w u y sg S)::Γ))(hT:lR w0)(_b:0<=S.st/\S.st<=4096) :
  Calls ai 116 #[.pointer (some B),cM S u y sg,E most] w fun e w'=>∃ cv ev gv v b,e=.returned (.tuple #[cM (dX S most) cv ev gv,v,bI (cJ S most)])/\Z w0 w' (ak B 164 [vv,sv,D,.bool b]::X W 3 v (fU S most)::aZ (fun w=>cX w cv ev gv (dX S most))::Γ):=by
 have oS:=(Y.ct 1 rfl).mi;obtain⟨n,d⟩:∃ n:Nat,S.st=(n:Int):=⟨S.st.toNat,U⟩
 refine bA an Tryz.func116 ?_;unfold cM;rw[d]at oS ⊢
 repeat (first|refine du ?_|(refine gX ?_;clear Y;intro p w Y))
 rename_i ps ws;obtain⟨z,rfl⟩:=À p;have Y:Z w0 w (ak z 142 [E 0,E 0,nS,nS,nS]::ak ps 142 [E n,E S.bR,u,y,sg]::ak B 164 [vv,sv,D,.bool ex]::aZ (fun w=>cX w u y sg S)::Γ):=Y;refine jw ?_ ?_<;>intro h1
 ·have R:cJ S most=0:=by unfold cJ;rw[d,aM h1]
  have V:fU S most=c9 n:=by unfold fU;rw[d,aM h1];congr 1
  have hP:dX S most=S:=by unfold dX;rw[d,aM h1]
  rw[R,V,hP];refine O ?_;refine fz (pl [0,1,2,3] (.cI 0::pl [4,5,6] [])) Y kr ?_;clear Y;intro w Y;refine O ?_;refine aL rfl (OU (n:=n) U) ?_;rintro _ w' ⟨v,rfl,al⟩;refine aI ?_;clear al Y;intro Y;refine iE ?_;intro w Y;exact HV (p:=z) (vs:=[E n,E S.bR,u,y,sg]) rfl rfl (v':=v) rfl (v2:=.nilIface) rfl rfl (fun j v hv=>lK (i:=1) Y rfl hv) ⟨u,y,sg,v,ex,by rw[d,fK rfl],Y.cw⟩
 have q:¬S.st<=most:=U;have _c:¬(n:Int)<=most:=U;refine O ?_;refine aL rfl (by have:=Yz (S:=S) (most:=most) (Y.ct 3 rfl) (hT.at Y);unfold cM at this;rw[d]at this;exact this) ?_;rintro _ w' ⟨r,rfl,P',al⟩;refine aI ?_;clear al Y;intro Y;by_cases hv:iT S=true
 case neg =>
  have b:¬dR S:=fun h=>hv (Cv h);have R:cJ S most=2:=by unfold cJ;rw[aC q,aC b]
  have V:fU S most=[]:=by unfold fU;rw[aC q,aC b]
  have hP:dX S most=cE:=by unfold dX;rw[aC q,aC b]
  have hD:iH S=2:=by unfold iH;rw[aC hv]
  rw[R,V,hP,hD,cS dc];refine O ?_;refine lw (parts:=[]) (vs:=[]) rfl rfl rfl ?_;refine iE ?_;intro w Y;refine HV (p:=z) (vs:=[E 0,E 0,nS,nS,nS]) rfl rfl (v':=nS) rfl (v2:=.iface 57 (E 2)) rfl rfl (fun j v hv=>lK (i:=1) Y rfl hv) ⟨nS,nS,nS,nS,ex,rfl,?_⟩;have h1:Z w0 _ (aZ (fun w=>cX w (nS) (nS) (nS) cE)::_):=Z.pR (fun w=>⟨RS.nil,RS.nil,RS.nil⟩) (Y.nil (T:=W) (e:=3));exact h1.cw
 have b:dR S:=nr fun h=>by rw[we h]at hv;cases hv
 have R:cJ S most=fx S (gC S most):=by unfold cJ;rw[aC q,aM b]
 have V:fU S most=gC S most:=by unfold fU;rw[aC q,aM b]
 have hP:dX S most=kC S (gC S most):=by unfold dX;rw[aC q,aM b]
 have hD:iH S=0:=by unfold iH;rw[aM hv]
 have hR:uf S most=gC S most:=by unfold uf;rw[aM hv]
 obtain⟨G,j'⟩:=P' hv;rw[R,V,hP,hD,fK rfl];rw[hR]at Y;refine O ?_;refine aL rfl (by have:=QY (S:=S) (Y.ct 4 rfl) (hT.at Y);unfold cM at this;rw[d]at this;exact this) ?_;rintro _ w' ⟨fv,rfl,R',al⟩;refine aI ?_;clear al Y;intro Y;rw[hD,fK rfl];have T':rz S=uP S:=by unfold rz;rw[aM hv]
 rw[T']at Y;obtain⟨L,_d,H'⟩:=R' hv;have a1:1<=S.st:=b.1;have H:0<(uP S).length:=by rw[H',CS];omega
 have J':∀ x∈uP S,0<=x/\x<=65536:=fun x hx=>by
  rw[H']at hx;obtain⟨i,g,rfl⟩:=fJ hx;have h1:=Ej (l:=L) (i:=i) (by rw[CS]at g;exact g);rw[am g]at h1;have:=HB L;omega
 obtain⟨C,V'⟩:=À (gC S most);obtain⟨F,_a⟩:=À (uP S);rw[<-V']at G j' Y ⊢;rw[<-_a]at H J' Y;have _e:=j' _ (KX G);have _f:=J' _ (KX H)
 cases ex with
 | false =>
  refine iE ?_;intro w Y;simp only[mM,mI]at Y;obtain⟨A,Y⟩:∃ A,Z w0 _ (X W 3 fv F::X W 3 r C::ak z 142 [E 0,E 0,nS,nS,nS]::ak ps 142 [E n,E S.bR,u,y,sg]::ak B 164 [vv,sv,D,.bool A]::aZ (fun w=>cX w u y sg S)::Γ):=⟨_,Y⟩
  refine aL rfl (by have:=Re (S:=S) (c:=C) (Y.ct 5 rfl) b (bk (s:=r) Y);unfold cM at this;rw[d]at this;exact this) ?_;rintro _ w' ⟨g,m,o,rfl,al⟩;refine qO ?_;clear al Y;intro Y;obtain⟨ev,K⟩:=À (bI (fx S C));obtain⟨Q,hQ⟩:=À (kC S C);rw[<-K,<-hQ];rw[<-hQ]at Y;simp only[qC,kL]at Y;have o1:=(bk (s:=g) Y).one;have o2:=(bk (s:=m) Y).one;have o3:=(bk (s:=o) Y).one;refine db ?_;intro p w Y;refine jF (n:=5) (p:=p) (vs:=[E Q.st,E Q.bR,g,m,o]) rfl rfl Y inferInstance rfl rfl (by simp only[eD,eN,o1,o2,o3];rfl) ?_;clear Y;intro w Y;refine O ?_;refine jF (n:=5) (p:=z) (vs:=[E Q.st,E Q.bR,g,m,o]) rfl rfl Y inferInstance rfl rfl (by simp only[eD,eN,o1,o2,o3];rfl) ?_;clear Y;intro w Y;refine O ?_;refine HV (p:=z) (vs:=[E Q.st,E Q.bR,g,m,o]) rfl rfl (v':=r) rfl (v2:=ev) rfl rfl (fun j v hv=>lK (i:=6) Y rfl hv) ⟨g,m,o,r,A,rfl,?_⟩;have N:Z w0 w (X W 3 g Q.aS::X aT 190 m Q.aD::X ah 4 o Q.aQ::ak B 164 [vv,sv,D,.bool A]::X W 3 r C::Γ):=Y.cw;have h3:=Z.rd (Δ:=[_,_,_]) (φ:=fun w=>cX w g m o Q) (fun _ _ h=>⟨h.rs 0 rfl,h.rs 1 rfl,h.rs 2 rfl⟩) N
  exact h3.cw
 | true =>
  refine O ?_;refine aL rfl (Rz (l:=C) (bk (s:=r) Y) G U) ?_;refine jT ?_;intro w' Y;refine aL rfl (Rz (l:=F) (bk (s:=fv) Y) H U) ?_;refine BP ?_;intro w Y;simp only[mM,mI]at Y;obtain⟨A,Y⟩:∃ A,Z w0 _ (X W 3 fv F::X W 3 r C::ak z 142 [E 0,E 0,nS,nS,nS]::ak ps 142 [E n,E S.bR,u,y,sg]::ak B 164 [vv,sv,D,.bool A]::aZ (fun w=>cX w u y sg S)::Γ):=⟨_,Y⟩
  refine aL rfl (by have:=Re (S:=S) (c:=C) (Y.ct 5 rfl) b (bk (s:=r) Y);unfold cM at this;rw[d]at this;exact this) ?_;rintro _ w' ⟨g,m,o,rfl,al⟩;refine qO ?_;clear al Y;intro Y;obtain⟨ev,K⟩:=À (bI (fx S C));obtain⟨Q,hQ⟩:=À (kC S C);rw[<-K,<-hQ];rw[<-hQ]at Y;simp only[qC,kL]at Y;have o1:=(bk (s:=g) Y).one;have o2:=(bk (s:=m) Y).one;have o3:=(bk (s:=o) Y).one;refine db ?_;intro p w Y;refine jF (n:=5) (p:=p) (vs:=[E Q.st,E Q.bR,g,m,o]) rfl rfl Y inferInstance rfl rfl (by simp only[eD,eN,o1,o2,o3];rfl) ?_;clear Y;intro w Y;refine O ?_;refine jF (n:=5) (p:=z) (vs:=[E Q.st,E Q.bR,g,m,o]) rfl rfl Y inferInstance rfl rfl (by simp only[eD,eN,o1,o2,o3];rfl) ?_;clear Y;intro w Y;refine O ?_;refine HV (p:=z) (vs:=[E Q.st,E Q.bR,g,m,o]) rfl rfl (v':=r) rfl (v2:=ev) rfl rfl (fun j v hv=>lK (i:=6) Y rfl hv) ⟨g,m,o,r,A,rfl,?_⟩;have N:Z w0 w (X W 3 g Q.aS::X aT 190 m Q.aD::X ah 4 o Q.aQ::ak B 164 [vv,sv,D,.bool A]::X W 3 r C::Γ):=Y.cw;have h3:=Z.rd (Δ:=[_,_,_]) (φ:=fun w=>cX w g m o Q) (fun _ _ h=>⟨h.rs 0 rfl,h.rs 1 rfl,h.rs 2 rfl⟩) N;exact h3.cw
end
section
open Go.Sl
def Y_ {c:J}{k:Int}(h:jz c n k)(f:1<=n):1<=k:=by
 obtain⟨h1,d,e,_⟩:=h;have hm:c.getD 0 W.dflt∈c:=cH W.dflt U;have a:=(d _ hm).1;have b:=e _ hm;omega
open Classical in
def Uj {c:J}(h:ln c n=true):0<=lT c n/\jz c n (lT c n):=by
 unfold ln at h;rw[gQ]at h;unfold lT;rw[dif_pos h];exact wh h
structure Nk (S:bZ) (C:J) (S':bZ):Prop where
 len:(C.length:Int)=S.st
 dK:∀ i:Nat,i<C.length->0<=C.getD i W.dflt/\C.getD i W.dflt<S'.st
 qG:1<=S'.st
 sC:S'.st<=S.st
def xz {S:bZ}(h1:1<=S.st)(c:cJ S most=0):Nk S (fU S most) (dX S most):=by
 by_cases hm:S.st<=most
 ·have e:fU S most=c9 S.st.toNat:=by unfold fU;rw[aM hm]
  have f:dX S most=S:=by unfold dX;rw[aM hm]
  rw[e,f];have b:(c9 S.st.toNat).length=S.st.toNat:=by simp[c9]
  refine⟨U,fun i d=>?_,h1,dt _⟩;have:(c9 S.st.toNat).getD i W.dflt=(i:Int):=by
   rw[b]at d;simp[c9,List.getD,d]
  omega
 by_cases hv:dR S
 ·have e:fU S most=gC S most:=by unfold fU;rw[aC hm,aM hv]
  have f:dX S most=kC S (gC S most):=by unfold dX;rw[aC hm,aM hv]
  have b:fx S (gC S most)=0:=by unfold cJ at c;rwa[aC hm,aM hv]at c
  rw[e,f];have g:ln (gC S most) S.st=true:=by
   unfold fx at b;by_cases h:iT S=true/\ln (gC S most) S.st=true
   ·exact h.2
   rw[aC h]at b;exact absurd b dc
  obtain⟨u,j⟩:=Uj g;have m:(kC S (gC S most)).st=lT (gC S most) S.st:=by unfold kC;rw[aM b]
  have o:=Y_ j h1;obtain⟨c1,c2,q,r⟩:=j;refine⟨c1,fun i d=>?_,U,?_⟩
  ·have hm:(gC S most).getD i W.dflt∈gC S most:=cH W.dflt d
   have:=c2 _ hm;have:=q _ hm;omega
  have:=c2 _ (r (lT (gC S most) S.st-1) U U);omega
 unfold cJ at c;rw[aC hm,aC hv]at c;exact absurd c dc
def Ut {v:Nat}(I:aG t)(hv:v<t.vars.length):(dY t [(v:Int)]).st=t.vars.getD v W.dflt:=by
 show br t.vars [(v:Int)]=_;simp[br,fQ,bY,sg,List.getD,hv,W]
inductive Ch (vars:J):List kw->Int->Prop
 | one (x:kw):x.var=0->((x.dS.length:Int)=vars.getD 0 W.dflt)->(∀ i:Nat,i<x.dS.length->0<=x.dS.getD i W.dflt/\x.dS.getD i W.dflt<x.eJ)->0<vars.length->Ch vars [x] x.eJ
 | eQ (l:List kw) (n m:Int) (y:kw):Ch vars l n->y.var=(l.length:Int)->((y.dS.length:Int)=vars.getD l.length W.dflt)->(∀ i:Nat,i<y.dS.length->0<=y.dS.getD i W.dflt/\y.dS.getD i W.dflt<y.eJ)->l.length<vars.length ->
   ((y.ou.length:Int)=n)->(∀ i:Nat,i<y.ou.length->0<=y.ou.getD i W.dflt/\y.ou.getD i W.dflt<m)->m*y.eJ<=4096->Ch vars (l++[y]) (m*y.eJ)
def ML {s:J}{y:kw}(h:l≠[]):oo s (l++[y])=y.ou.getD (oo s l).toNat W.dflt*y.eJ+y.dS.getD (s.getD y.var.toNat W.dflt).toNat W.dflt:=by
 cases l with
 | nil=>exact absurd rfl h
 | cons x r=>simp only[oo,qC,ti,sy,GM]
def Ch.ne {vars:J}(h:Ch vars l n):l≠[]:=by cases h<;>simp
def Ch.at {vars s:J}(b:ab vars s){l:List kw}{n:Int}(h:Ch vars l n):0<=oo s l/\oo s l<n:=by
 induction h with
 | one x hv j c d =>
  have e:oo s [x]=x.dS.getD (s.getD x.var.toNat W.dflt).toNat W.dflt:=rfl;rw[e];have o:=b.2 0 (by rw[b.1];exact d);rw[hv];have:=c (s.getD 0 W.dflt).toNat U
  exact this
 | eQ l n m y h hv j c d B f hm C =>
  rw[ML h.ne];have o:=b.2 l.length (by rw[b.1];exact d);rw[hv];have q:=c (s.getD l.length W.dflt).toNat U;have g:=f (oo s l).toNat U;rw[show ((l.length:Nat):Int).toNat=l.length from by omega];obtain⟨r,c1⟩:=q;obtain⟨i,z⟩:=g;generalize y.dS.getD (s.getD l.length W.dflt).toNat W.dflt=u at r c1 ⊢;generalize y.ou.getD (oo s l).toNat W.dflt=v at i z ⊢;have h1:0<=v*y.eJ:=sj i U;have A:(v+1)*y.eJ<=m*y.eJ:=xV U U;rw[zM,Dq]at A;omega
noncomputable def nw (t:aa)(most:Int)(k:Nat):C7:=if k=0 then ⟨cE,[],0⟩ else lz t most k
def MN (t:aa)(most:Int):nw t most 1=pF t most 0:=rfl
def MO (hk:0<k):nw t most (k+1)=pG t most (nw t most k) k:=by
 obtain⟨j,rfl⟩:∃ j,k=j+1:=⟨k-1,U⟩
 rfl
def MP (hk:0<k)(he:(nw t most k).vC≠0):∀ m,k<=m->nw t most m=nw t most k:=by
 intro m hm
 induction m with
 | zero=>omega
 | succ m b =>
  by_cases e:k=m+1
  ·rw[e]
  have h1:=b U;rw[MO U,h1];unfold pG;rw[aM he]
end
section
open Go.Sl Go
attribute [local irreducible] vc opsW opsD opV opW PureV ReadV Thn Blk
def Z_ {b c d:Value}{vs:List iW}{v:Int}(m:bn w0 a b c d vs t) :
  Calls ai 115 #[.agg #[a,b,c,d],E v] w0 fun e w'=>∃ cv ev gv,e=.returned (.tuple #[cM (kt t [v] (cT t [v])) cv ev gv,bI (cT t [v])])/\s8 w0 w' cv ev gv (kt t [v] (cT t [v])):=by
 have Y:=Z.start w0;refine bA an Tryz.func115 ?_
 repeat (first|refine du ?_|(refine gX ?_;clear Y;intro p w Y)|(refine fA ?_;clear Y;intro s w Y))
 obtain⟨g,rfl⟩:=À p;refine aL rfl (F0 (m.at Y) (Y.rs 0 rfl)) ?_;rintro _ w' ⟨cv,ev,gv,rfl,al⟩;refine qO ?_;clear al Y;intro Y;simp only[qC,kL]at Y;obtain⟨o,f⟩:=À (bI (cT t [v]));obtain⟨S,h⟩:=À (kt t [v] (cT t [v]));rw[<-f,<-h];rw[<-h]at Y;have q:=(bk (s:=cv) Y).one;have r:=(bk (s:=ev) Y).one;have u:=(bk (s:=gv) Y).one;unfold cM;refine O ?_;refine jF (n:=5) (p:=g) (vs:=[E S.st,E S.bR,cv,ev,gv]) rfl rfl Y inferInstance rfl rfl (by simp only[eD,eN,q,r,u];rfl) ?_;clear Y;intro w Y;refine O ?_;refine lM (p:=g) (vs:=[E S.st,E S.bR,cv,ev,gv]) rfl rfl (v':=o) rfl rfl (fun j v hv=>lK (i:=4) Y rfl hv) ⟨cv,ev,gv,rfl,?_⟩;exact Y.aY
structure w7 where
 var:Int
 dS:Value
 ou:Value
 eJ:Int
def fo:Ty w7:=⟨4,fun x=>[E x.var,x.dS,x.ou,E x.eJ],fun _=>rfl,⟨0,nS,nS,0⟩⟩
structure ko (ms:List w7) (L:List kw) (w:World):Prop where
 len:ms.length=L.length
 var:∀ i,i<L.length->(ms.getD i fo.dflt).var=(L.getD i ⟨0,[],[],0⟩).var
 eJ:∀ i,i<L.length->(ms.getD i fo.dflt).eJ=(L.getD i ⟨0,[],[],0⟩).eJ
 dS:∀ i,i<L.length->RS W w (ms.getD i fo.dflt).dS (L.getD i ⟨0,[],[],0⟩).dS
 ou:∀ i,i<L.length->RS W w (ms.getD i fo.dflt).ou (L.getD i ⟨0,[],[],0⟩).ou
def IK {α:Type}{l:List α}{x d:α}{i:Nat}:(l++[x]).getD i d=if i<l.length then l.getD i d else if i=l.length then x else d:=by
 by_cases h:i<l.length
 ·rw[aM h];simp[List.getD,iX h]
 rw[aC h];by_cases e:i=l.length
 ·rw[aM e];subst e;simp[List.getD]
 rw[aC e];simp[List.getD,kn (xW.1 h),uK (show [x].length<=i-l.length by simp;omega)]
def ko.eQ {ms:List w7}{m:w7}{y:kw}(h:ko ms L w)(h1:m.var=y.var)(h2:m.eJ=y.eJ)(f:RS W w m.dS y.dS)(g:RS W w m.ou y.ou):ko (ms++[m]) (L++[y]) w:=by
 have c:=h.len
 refine⟨by rw[length_append,length_append,c];rfl,fun i b=>?_,fun i b=>?_,fun i b=>?_,fun i b=>?_⟩ <;>
 ·rw[length_append,r6]at b
  rw[IK,IK,c];by_cases e:i<L.length
  ·rw[aM e,aM e]
   first|exact h.var i e|exact h.eJ i e|exact h.dS i e|exact h.ou i e
  have d:i=L.length:=U;rw[aC e,aC e,aM d,aM d]
  first|exact h1|exact h2|exact f|exact g
def ko.nil:ko [] [] w:=⟨rfl,fun _ h=>by simp at h,fun _ h=>by simp at h,fun _ h=>by simp at h,fun _ h=>by simp at h⟩
def ϒ {n:Nat}(h:k<n):(c9 n).getD k W.dflt=(k:Int):=by simp[c9,List.getD,h]
structure Uu (t:aa) (X':C7) (k:Nat):Prop where
 qG:1<=X'.eG.st
 sC:X'.eG.st<=4096
 ch:Ch t.vars X'.eJ X'.eG.st
 len:X'.eJ.length=k
def Wk {Γ:List HP}{D:Addr}{vv H b c d ov:Value}{j':Bool}{vs:List iW}{M':Nat}(Y:Z w0 w (ak D 164 [vv,nS,H,.bool j']::Γ))(hT:lR w0)(I:aG t)(ht:bn w0 a b c d vs t)(ho:RS W w0 ov (c9 t.vars.length))(_v:1<=M')(_w:M'<=4096) :
  Calls ai 90 #[.pointer (some D),.agg #[a,b,c,d],ov,E M'] w fun e w'=>∃ cv ev gv sv ms ex,e=.returned (.tuple #[cM (lz t M' t.vars.length).eG cv ev gv,bI (lz t M' t.vars.length).vC])/\((lz t M' t.vars.length).vC=0->0<t.vars.length->Uu t (lz t M' t.vars.length) t.vars.length) /\
   Z w0 w' (ak D 164 [vv,sv,H,.bool ex]::X fo 201 sv ms::aZ (ko ms (lz t M' t.vars.length).eJ)::aZ (fun w=>cX w cv ev gv (lz t M' t.vars.length).eG)::Γ):=by
 obtain⟨n,hn⟩:=À t.vars.length;have _q:=I.vars;rw[<-hn]at ho _q ⊢;have _x:(c9 n).length=n:=Ct n;refine bA an Tryz.func90 ?_
 repeat (first|refine du ?_|(refine gX ?_;clear Y;intro p w Y))
 rename_i pt wt;obtain⟨r,rfl⟩:=À p;have Y:Z w0 w (ak r 142 [E 0,E 0,nS,nS,nS]::ak pt 26 [a,b,c,d]::ak D 164 [vv,nS,H,.bool j']::Γ):=Y;have Y:Z w0 w (ak r 142 [E 0,E 0,nS,nS,nS]::ak pt 26 [a,b,c,d]::ak D 164 [vv,nS,H,.bool j']::Γ):=Y;refine jw ?_ ?_<;>intro h1
 ·have m:n=0:=U
  have f:lz t M' n=⟨kt t [] (cT t []),[],cT t []⟩:=by rw[m];rfl
  rw[f];refine O ?_;refine aL rfl (F0 (L:=[]) (ht.at Y) RS.nil) ?_;rintro _ w' ⟨cv,ev,gv,rfl,al⟩;refine qO ?_;clear al Y;intro Y;simp only[qC,kL]at Y;obtain⟨er,N⟩:=À (bI (cT t []));obtain⟨S,hS⟩:=À (kt t [] (cT t []));rw[<-N,<-hS];rw[<-hS]at Y;have o1:=(bk (s:=cv) Y).one;have o2:=(bk (s:=ev) Y).one;have o3:=(bk (s:=gv) Y).one;unfold cM;refine O ?_;refine jF (n:=5) (p:=r) (vs:=[E S.st,E S.bR,cv,ev,gv]) rfl rfl Y inferInstance rfl rfl (by simp only[eD,eN,o1,o2,o3];rfl) ?_;clear Y;intro w Y;refine O ?_;refine lM (p:=r) (vs:=[E S.st,E S.bR,cv,ev,gv]) rfl rfl (v':=er) rfl rfl (fun j v hv=>lK (i:=3) Y rfl hv) ⟨cv,ev,gv,nS,[],j',rfl,fun _ h=>absurd h U,?_⟩;have h2:Z w0 w (X W 3 cv S.aS::X aT 190 ev S.aD::X ah 4 gv S.aQ::ak D 164 [vv,nS,H,.bool j']::Γ):=Y.cw;have h3:=Z.rd (Δ:=[_,_,_]) (φ:=fun w=>cX w cv ev gv S) (fun _ _ h=>⟨h.rs 0 rfl,h.rs 1 rfl,h.rs 2 rfl⟩) h2;have o:Z w0 w (aZ (ko [] [])::_):=Z.pR (fun w=>ko.nil) h3;have q:=o.nil (T:=fo) (e:=201);exact q.cw
 refine O ?_;have _y:0<n:=U;refine aL rfl (į (n:=(M':Int)) U U) ?_;refine M3 ?_;intro p w Y;obtain⟨pc,rfl⟩:=À p;have _l:Z w0 w (ak pc 142 [E (nw t M' 0).eG.st,E (nw t M' 0).eG.bR,nS,nS,nS]::ak D 164 [vv,nS,H,.bool j']::X fo 201 (nS) []::aZ (ko [] (nw t M' 0).eJ)::aZ (fun w=>cX w (nS) (nS) (nS) (nw t M' 0).eG)::ak r 142 [E 0,E 0,nS,nS,nS]::ak pt 26 [a,b,c,d]::Γ):=by
  have f:Z w0 w (aZ (fun w=>cX w (nS) (nS) (nS) cE)::_):=Z.pR (fun w=>⟨RS.nil,RS.nil,RS.nil⟩) Y;have a2:Z w0 w (aZ (ko [] [])::_):=Z.pR (fun w=>ko.nil) f;have a3:=a2.nil (T:=fo) (e:=201);have a4:Z w0 w (ak pc 142 [E 0,E 0,nS,nS,nS]::ak D 164 [vv,nS,H,.bool j']::X fo 201 (nS) []::aZ (ko [] [])::aZ (fun w=>cX w (nS) (nS) (nS) cE)::ak r 142 [E 0,E 0,nS,nS,nS]::ak pt 26 [a,b,c,d]::Γ):=a3.cw;exact a4
 refine cP [9,9,12,18,30,153] (G:=Nat) (fun k=>[(30,E k)]) (fun k w=>k<=n/\(nw t M' k).vC=0/\(0<k->Uu t (nw t M' k) k)/\∃ sv ms ex cc ce cg,Z w0 w (ak pc 142 [E (nw t M' k).eG.st,E (nw t M' k).eG.bR,cc,ce,cg]::ak D 164 [vv,sv,H,.bool ex]::X fo 201 sv ms::aZ (ko ms (nw t M' k).eJ)::aZ (fun w=>cX w cc ce cg (nw t M' k).eG)::ak r 142 [E 0,E 0,nS,nS,nS]::ak pt 26 [a,b,c,d]::Γ)) (fun k=>n-k) 0 (fun _=>rfl) ⟨rfl,az⟩ ⟨bu _,rfl,fun h=>absurd h U,_,_,_,_,_,_,_l⟩ ?_;clear Y _l;rintro _ k w ⟨_z,_b,_g,sv,ms,ex,cc,ce,cg,Y⟩;obtain⟨f,hX⟩:=À (nw t M' k);rw[<-hX]at _b _g Y;refine aB ?_ ?_<;>intro h2;rotate_left
 ·have hk:k=n:=U
  have o:lz t M' n=f:=by rw[hX,hk];unfold nw;rw[aC U]
  rw[o,_b];have o1:=(Y.ct 4 rfl).mi;refine iE ?_;intro w Y;exact lM (p:=r) (vs:=[E f.eG.st,E f.eG.bR,cc,ce,cg]) rfl rfl (v':=bI 0) (by rw[fK rfl];rfl) rfl (fun j v hv=>lK (i:=5) Y rfl hv) ⟨cc,ce,cg,sv,ms,ex,rfl,fun _ _=>by rw[<-hk];exact _g U,Y.cw⟩
 have _r:k<n:=U;have H':∀ LL Q,Q≠0->nw t M' (k+1)=⟨cE,LL,Q⟩->lz t M' n=⟨cE,LL,Q⟩:=fun LL Q h1 h2=>by
  rw[<-h2,<-MP (DL k) (by rw[h2];exact h1) n U];unfold nw;rw[aC U]
 have _s:=ϒ _r;refine O ?_;rw[_s];refine O ?_;refine aL rfl (Z_ (v:=(k:Int)) (ht.at Y)) ?_;rintro _ w' ⟨R,V,ag,rfl,al⟩;refine qO ?_;clear al Y;intro Y;by_cases he:cT t [(k:Int)]=0;rotate_left
 ·have z:nw t M' (k+1)=⟨cE,f.eJ,cT t [(k:Int)]⟩:=by
   rcases uH k with m|m
   ·subst m
    rw[MN,hX];unfold pF;rw[aM (by simpa using he)];rfl
   rw[MO m,<-hX];unfold pG;rw[aC (by rw[_b];exact fun h=>h rfl),aM he]
  have m:lz t M' n=⟨cE,f.eJ,cT t [(k:Int)]⟩:=by
   rw[<-z,<-MP (DL k) (by rw[z];exact he) n U];unfold nw;rw[aC U]
  have hA:kt t [(k:Int)] (cT t [(k:Int)])=cE:=by unfold kt;rw[aC he]
  rw[hA]at Y ⊢;obtain⟨Q,q⟩:=À (cT t [(k:Int)]);obtain⟨LL,y⟩:=À f.eJ;rw[<-q]at he m ⊢;rw[<-y]at Y m;have o:=he;rw[cS he];simp only[qC,kL]at Y;have o1:=(bk (s:=R) Y).one;have o2:=(bk (s:=V) Y).one;have o3:=(bk (s:=ag) Y).one;unfold cM;refine db ?_;intro p w Y;refine jF (n:=5) (p:=p) (vs:=[E cE.st,E cE.bR,R,V,ag]) rfl rfl Y inferInstance rfl rfl (by simp only[eD,eN,o1,o2,o3];rfl) ?_;clear Y;intro w Y;refine O ?_;rw[m];have Y:Z w0 w (ak r 142 [E 0,E 0,nS,nS,nS]::ak D 164 [vv,sv,H,.bool ex]::X fo 201 sv ms::aZ (ko ms LL)::Γ):=Y.cw;refine lw (parts:=[]) (vs:=[]) rfl rfl rfl ?_;refine iE ?_;intro w Y;refine lM (p:=r) (vs:=[E 0,E 0,nS,nS,nS]) rfl rfl (v':=bI Q) (by rw[cS o];rfl) rfl (fun j v hv=>lK (i:=0) Y rfl hv) ⟨nS,nS,nS,sv,ms,ex,rfl,fun h=>absurd h o,?_⟩;have h9:Z w0 _ (aZ (fun w=>cX w (nS) (nS) (nS) cE)::_):=Z.pR (fun w=>⟨RS.nil,RS.nil,RS.nil⟩) Y;exact h9.cw
 rw[fK he];have hA:kt t [(k:Int)] (cT t [(k:Int)])=dY t [(k:Int)]:=by rw[he];rfl
 have J':1<=(dY t [(k:Int)]).st/\(dY t [(k:Int)]).st<=4096:=by
  rw[Ut I U];have:=I.mN k U;omega
 have _h:=Ut (v:=k) I U;rw[hA]at Y ⊢;obtain⟨A,_c⟩:=À (dY t [(k:Int)]);rw[<-_c]at J' _h Y ⊢;simp only[qC,kL]at Y;have o1:=(bk (s:=R) Y).one;have o2:=(bk (s:=V) Y).one;have o3:=(bk (s:=ag) Y).one;unfold cM;refine db ?_;intro p w Y;refine jF (n:=5) (p:=p) (vs:=[E A.st,E A.bR,R,V,ag]) rfl rfl Y inferInstance rfl rfl (by simp only[eD,eN,o1,o2,o3];rfl) ?_;clear Y;intro w Y;obtain⟨R',rfl⟩:=À p;refine db ?_;intro pg w Y;have Y:Z w0 w (ak pg 201 [E k,nS,nS,E 0]::ak R' 142 [E A.st,E A.bR,R,V,ag]::X W 3 R A.aS::X aT 190 V A.aD::X ah 4 ag A.aQ::ak pc 142 [E f.eG.st,E f.eG.bR,cc,ce,cg]::ak D 164 [vv,sv,H,.bool ex]::X fo 201 sv ms::aZ (ko ms f.eJ)::aZ (fun w=>cX w cc ce cg f.eG)::ak r 142 [E 0,E 0,nS,nS,nS]::ak pt 26 [a,b,c,d]::Γ):=Y;have Y:Z w0 w (X W 3 R A.aS::X aT 190 V A.aD::X ah 4 ag A.aQ::ak D 164 [vv,sv,H,.bool ex]::ak pg 201 [E k,nS,nS,E 0]::ak R' 142 [E A.st,E A.bR,R,V,ag]::ak pc 142 [E f.eG.st,E f.eG.bR,cc,ce,cg]::X fo 201 sv ms::aZ (ko ms f.eJ)::aZ (fun w=>cX w cc ce cg f.eG)::ak r 142 [E 0,E 0,nS,nS,nS]::ak pt 26 [a,b,c,d]::Γ):=Y.cw;have Y:=Z.rd (Δ:=[_,_,_]) (φ:=fun w=>cX w R V ag A) (fun _ _ h=>⟨h.rs 0 rfl,h.rs 1 rfl,h.rs 2 rfl⟩) Y;have oA:=(Y.ct 0 rfl).mi;refine jw ?_ ?_<;>intro h3
 ·have P:k=0:=U
  have P':f=⟨cE,[],0⟩:=by rw[hX,P];rfl
  refine O ?_;have T':Z w0 w (ak D 164 [vv,sv,H,.bool ex]::aZ (fun w=>cX w R V ag A)::ak pg 201 [E k,nS,nS,E 0]::ak R' 142 [E A.st,E A.bR,R,V,ag]::ak pc 142 [E f.eG.st,E f.eG.bR,cc,ce,cg]::X fo 201 sv ms::aZ (ko ms f.eJ)::aZ (fun w=>cX w cc ce cg f.eG)::ak r 142 [E 0,E 0,nS,nS,nS]::ak pt 26 [a,b,c,d]::Γ):=Y.cw;refine aL rfl (MM (S:=A) (most:=(M':Int)) T' hT ⟨U,J'.2⟩) ?_;clear Y T';rintro _ w ⟨yv,ye,yg,qv,ex,rfl,Y⟩;refine⟨_,rfl,?_⟩;obtain⟨er,N⟩:=À (cJ A (M':Int));obtain⟨S,hS⟩:=À (dX A (M':Int));obtain⟨C,hC⟩:=À (fU A (M':Int));rw[<-N];rw[<-hS,<-hC]at Y;rw[<-hS];have oS:=(Y.ct 2 rfl).mi;unfold cM;by_cases u:er=0;rotate_left
  ·have m:lz t M' n=⟨cE,f.eJ,er⟩:=by
    have z:nw t M' (k+1)=⟨cE,f.eJ,er⟩:=by
     subst P;rw[MN,P'];unfold pF;have e1:cT t [(0:Int)]=0:=by simpa using he
     have e2:dY t [(0:Int)]=A:=by rw[_c];rfl
     rw[aC (fun h=>h e1),e2,<-N,aM u]
    rw[<-z,<-MP (DL k) (by rw[z];exact u) n U];unfold nw;rw[aC U]
   have o:er≠0:=u;obtain⟨Q,q⟩:=À er;obtain⟨LL,y⟩:=À f.eJ;rw[<-q]at m o ⊢;rw[<-y]at Y m;rw[cS o];refine iE ?_;intro w Y;rw[m];have Y:Z w0 w (ak r 142 [E 0,E 0,nS,nS,nS]::ak D 164 [vv,sv,H,.bool ex]::X fo 201 sv ms::aZ (ko ms LL)::Γ):=Y.cw;refine lw (parts:=[]) (vs:=[]) rfl rfl rfl ?_;refine iE ?_;intro w Y;refine lM (p:=r) (vs:=[E 0,E 0,nS,nS,nS]) rfl rfl (v':=bI Q) (by rw[cS o];rfl) rfl (fun j v hv=>lK (i:=0) Y rfl hv) ⟨nS,nS,nS,sv,ms,ex,rfl,fun h=>absurd h o,?_⟩;have h9:Z w0 _ (aZ (fun w=>cX w (nS) (nS) (nS) cE)::_):=Z.pR (fun w=>⟨RS.nil,RS.nil,RS.nil⟩) Y;exact h9.cw
  rw[fK u];refine iE ?_;intro w Y;simp only[mM,mI]at Y;refine fz (pl [0,1,2,3,4,5,6] (.cI 4::pl [7,8,9,10] [])) Y kr ?_;clear Y;intro w Y;refine O ?_;refine jK fo (x1:=⟨(k:Int),qv,nS,S.st⟩) rfl rfl rfl (fY rfl) (fe _) Y ?_;clear Y;intro s2 w Y;refine O ?_;have _d:=(Y.ct 8 rfl).len;rw[P']at _d;have _d:ms.length=0:=_d;have oq:=(bk (s:=qv) Y).one;have _i:=oq;refine q7 (T:=fo) (sz:=4) (by_:=64) (e:=201) (zs:=[E 0,nS,nS,E 0]) (s:=sv) (s2:=s2) (xs:=ms) (ys:=[⟨(k:Int),qv,nS,S.st⟩]) inferInstance rfl rfl (bk Y) rfl rfl (fun x hx v hv=>by rw[dp.1 hx]at hv;simp only[fo,ee,fI,pP]at hv;rcases hv with rfl|rfl|rfl|rfl<;>first|rfl|exact oq|exact _i) (by simp only[length_cons,length_nil];omega) (by unfold bU;simp only[length_cons,length_nil];omega) Y ?_;clear Y;intro s3 w Y;refine iE ?_;intro w Y;simp only[mM,mI]at Y;have z:=xz J'.1 (N.symm.trans u);rw[<-hS,<-hC]at z;have K:nw t M' (k+1)=⟨S,f.eJ++[⟨(k:Int),C,[],S.st⟩],0⟩:=by
   have e0:(k:Int)=0:=U;have e1:cT t [(0:Int)]=0:=by have h:=he;rw[e0]at h;exact h
   have e2:dY t [(0:Int)]=A:=by rw[_c,e0]
   rw[P',P,MN];unfold pF;rw[aC (fun h=>h e1),e2,<-N,aC (fun h=>h u),<-hS,<-hC];rfl
  refine⟨k+1,⟨rfl,az⟩,aU,⟨U,by rw[K],fun _=>?_,s3,ms++[⟨(k:Int),qv,nS,S.st⟩],ex,yv,ye,yg,?_⟩,U⟩
  ·rw[K]
   exact⟨z.qG,rU z.sC J'.2,by rw[P'];exact Ch.one ⟨(k:Int),C,[],S.st⟩ (by show (k:Int)=0;omega) (by show (C.length:Int)=_;rw[z.len,_h,P]) z.dK U,by rw[P',P];rfl⟩
  rw[K];have Y:Z w0 w (X W 3 qv C::aZ (ko ms f.eJ)::ak pc 142 [E S.st,E S.bR,yv,ye,yg]::ak D 164 [vv,s3,H,.bool ex]::X fo 201 s3 (ms++[⟨(k:Int),qv,nS,S.st⟩])::aZ (fun w=>cX w yv ye yg S)::ak r 142 [E 0,E 0,nS,nS,nS]::ak pt 26 [a,b,c,d]::Γ):=Y.cw;have h2:Z w0 w (aZ (ko (ms++[⟨(k:Int),qv,nS,S.st⟩]) (f.eJ++[⟨(k:Int),C,[],S.st⟩]))::_):=Z.rd (Δ:=[_,_]) (fun _ _ h=>(h.ct 1 rfl).eQ rfl rfl (h.rs 0 rfl) RS.nil) Y;exact h2.cw
 have _m:0<k:=U;obtain⟨x1,x2,x3,x4⟩:=_g _m;refine O ?_;have _A:0<=f.eG.st*A.st:=sj U U;have _B:f.eG.st*A.st<=4096*4096:=yx x2 J'.2 U U;have _C : -9223372036854775808<=f.eG.st*A.st:=U;have _D:f.eG.st*A.st<=9223372036854775807:=U;refine fz (pl [0,1,2,3,4,5] []) Y kr ?_;clear Y;intro w Y
 repeat (first|refine Bg ?_|refine Cq ?_|refine Eh ?_|refine Ag ?_|refine Ea ?_|refine zW ?_|refine Cz ?_)
 refine uI ?_;have Y:Z w0 w (ak D 164 [vv,sv,H,.bool ex]::aZ (fun w=>cX w cc ce cg f.eG)::aZ (fun w=>cX w R V ag A)::ak pg 201 [E k,nS,nS,E 0]::ak R' 142 [E A.st,E A.bR,R,V,ag]::ak pc 142 [E f.eG.st,E f.eG.bR,cc,ce,cg]::X fo 201 sv ms::aZ (ko ms f.eJ)::ak r 142 [E 0,E 0,nS,nS,nS]::ak pt 26 [a,b,c,d]::Γ):=Y.cw;refine sh [17,18,79,103] (G:=Int × Int) (fun x=>[(17,E x.1),(18,E x.2)]) (fun x w=>x=up (M':Int) f.eG.st A.st/\Z w0 w (ak D 164 [vv,sv,H,.bool ex]::aZ (fun w=>cX w cc ce cg f.eG)::aZ (fun w=>cX w R V ag A)::ak pg 201 [E k,nS,nS,E 0]::ak R' 142 [E A.st,E A.bR,R,V,ag]::ak pc 142 [E f.eG.st,E f.eG.bR,cc,ce,cg]::X fo 201 sv ms::aZ (ko ms f.eJ)::ak r 142 [E 0,E 0,nS,nS,nS]::ak pt 26 [a,b,c,d]::Γ)) (fun _=>rfl) ?_ ?_
 ·refine aB ?_ ?_<;>intro g1
  rotate_left
  ·refine O ?_
   exact⟨(f.eG.st,A.st),⟨rfl,rfl,az⟩,aU,by unfold up;rw[aC U],Y⟩
  refine aB ?_ ?_<;>intro g2
  ·refine O ?_
   exact⟨(f.eG.st,(M':Int).tdiv f.eG.st),⟨rfl,rfl,az⟩,aU,by unfold up;rw[aM U,aM U],Y⟩
  refine aB ?_ ?_<;>intro g3
  ·refine O ?_
   exact⟨((M':Int).tdiv A.st,A.st),⟨rfl,rfl,az⟩,aU,by unfold up;rw[aM U,aC U,aM U],Y⟩
  refine O ?_;exact⟨(ka (M':Int),ka (M':Int)),⟨rfl,rfl,az⟩,aU,by unfold up;rw[aM U,aC U,aC U],Y⟩
 clear Y;rintro _ z w ⟨_t,Y⟩
 have K:nw t M' (k+1)=if cJ f.eG z.1≠0 then ⟨cE,f.eJ,cJ f.eG z.1⟩ else if cJ A z.2≠0 then ⟨cE,f.eJ,cJ A z.2⟩ else if dB (dX f.eG z.1) (dX A z.2)≠0 then ⟨cE,f.eJ++[⟨(k:Int),fU A z.2,fU f.eG z.1,(dX A z.2).st⟩],dB (dX f.eG z.1) (dX A z.2)⟩ else ⟨jh (dX f.eG z.1) (dX A z.2),f.eJ++[⟨(k:Int),fU A z.2,fU f.eG z.1,(dX A z.2).st⟩],0⟩:=by
  rw[MO _m,<-hX,_t,_c];unfold pG;rw[aC (fun h=>h _b),aC (fun h=>h he)]
 have oX:=(Y.ct 1 rfl).mi;refine O ?_;refine aL rfl (MM (S:=f.eG) (most:=z.1) Y hT ⟨U,x2⟩) ?_;clear Y;rintro _ w ⟨yv,ye,yg,qv,ex,rfl,Y⟩;refine⟨_,rfl,?_⟩;obtain⟨er,N⟩:=À (cJ f.eG z.1);obtain⟨S,hS⟩:=À (dX f.eG z.1);obtain⟨C,hC⟩:=À (fU f.eG z.1);rw[<-N]at K ⊢;rw[<-hS,<-hC]at Y K;rw[<-hS];have oS:=(Y.ct 2 rfl).mi;unfold cM;by_cases u:er=0;rotate_left
 ·rw[aM u]at K
  have m:=H' _ _ u K;obtain⟨Q,q⟩:=À er;obtain⟨LL,y⟩:=À f.eJ;have o:Q≠0:=by rw[q];exact u
  rw[<-q]at m ⊢;rw[<-y]at Y m;rw[cS o];refine iE ?_;intro w Y;rw[m];have Y:Z w0 w (ak r 142 [E 0,E 0,nS,nS,nS]::ak D 164 [vv,sv,H,.bool ex]::X fo 201 sv ms::aZ (ko ms LL)::Γ):=Y.cw;refine lw (parts:=[]) (vs:=[]) rfl rfl rfl ?_;refine iE ?_;intro w Y;refine lM (p:=r) (vs:=[E 0,E 0,nS,nS,nS]) rfl rfl (v':=bI Q) (by rw[cS o];rfl) rfl (fun j v hv=>lK (i:=0) Y rfl hv) ⟨nS,nS,nS,sv,ms,ex,rfl,fun h=>absurd h o,?_⟩;have h9:Z w0 _ (aZ (fun w=>cX w (nS) (nS) (nS) cE)::_):=Z.pR (fun w=>⟨RS.nil,RS.nil,RS.nil⟩) Y;exact h9.cw
 rw[aC (fun h=>h u)]at K;have V':=xz x1 (N.symm.trans u);rw[<-hS,<-hC]at V';rw[fK u];refine iE ?_;intro w Y;simp only[mM,mI]at Y;have Y:Z w0 w (ak D 164 [vv,sv,H,.bool ex]::aZ (fun w=>cX w R V ag A)::X W 3 qv C::aZ (fun w=>cX w yv ye yg S)::ak pg 201 [E k,nS,qv,E 0]::ak R' 142 [E A.st,E A.bR,R,V,ag]::ak pc 142 [E S.st,E S.bR,yv,ye,yg]::X fo 201 sv ms::aZ (ko ms f.eJ)::ak r 142 [E 0,E 0,nS,nS,nS]::ak pt 26 [a,b,c,d]::Γ):=Y.cw;refine aL rfl (MM (S:=A) (most:=z.2) Y hT ⟨U,J'.2⟩) ?_;clear Y;rintro _ w ⟨zv,ze,zg,rv,ex,rfl,Y⟩;refine⟨_,rfl,?_⟩;obtain⟨_n,_f⟩:=À (cJ A z.2);obtain⟨P,_j⟩:=À (dX A z.2);obtain⟨C2,_o⟩:=À (fU A z.2);rw[<-_f]at K ⊢;rw[<-_j,<-_o]at Y K;rw[<-_j];have _E:=(Y.ct 2 rfl).mi;unfold cM;by_cases T':_n=0;rotate_left
 ·rw[aM T']at K
  have m:=H' _ _ T' K;obtain⟨Q,q⟩:=À _n;obtain⟨LL,y⟩:=À f.eJ;have o:Q≠0:=by rw[q];exact T'
  rw[<-q]at m ⊢;rw[<-y]at Y m;rw[cS o];refine iE ?_;intro w Y;rw[m];have Y:Z w0 w (ak r 142 [E 0,E 0,nS,nS,nS]::ak D 164 [vv,sv,H,.bool ex]::X fo 201 sv ms::aZ (ko ms LL)::Γ):=Y.cw;refine lw (parts:=[]) (vs:=[]) rfl rfl rfl ?_;refine iE ?_;intro w Y;refine lM (p:=r) (vs:=[E 0,E 0,nS,nS,nS]) rfl rfl (v':=bI Q) (by rw[cS o];rfl) rfl (fun j v hv=>lK (i:=0) Y rfl hv) ⟨nS,nS,nS,sv,ms,ex,rfl,fun h=>absurd h o,?_⟩;have h9:Z w0 _ (aZ (fun w=>cX w (nS) (nS) (nS) cE)::_):=Z.pR (fun w=>⟨RS.nil,RS.nil,RS.nil⟩) Y;exact h9.cw
 rw[aC (fun h=>h T')]at K;have _e:=xz J'.1 (_f.symm.trans T');rw[<-_j,<-_o]at _e;rw[fK T'];refine iE ?_;intro w Y;simp only[mM,mI]at Y;refine fz (pl [0,1,2,3,4,5,6] (.cI 4::pl [7,8,9,10] [])) Y kr ?_;clear Y;intro w Y;refine O ?_;refine jK fo (x1:=⟨(k:Int),rv,qv,P.st⟩) rfl rfl rfl (fY rfl) (fe _) Y ?_;clear Y;intro s2 w Y;refine O ?_;have _d:ms.length=f.eJ.length:=(show ko ms f.eJ w from Y.ct 10 rfl).len;have oq:=(bk (s:=qv) Y).one;have _i:=(bk (s:=rv) Y).one;refine q7 (T:=fo) (sz:=4) (by_:=64) (e:=201) (zs:=[E 0,nS,nS,E 0]) (s:=sv) (s2:=s2) (xs:=ms) (ys:=[⟨(k:Int),rv,qv,P.st⟩]) inferInstance rfl rfl (bk Y) rfl rfl (fun x hx v hv=>by rw[dp.1 hx]at hv;simp only[fo,ee,fI,pP]at hv;rcases hv with rfl|rfl|rfl|rfl<;>first|rfl|exact oq|exact _i) (by simp only[length_cons,length_nil];omega) (by unfold bU;simp only[length_cons,length_nil];omega) Y ?_;clear Y;intro sv w Y;refine iE ?_;intro w Y;simp only[mM,mI]at Y;have Y:Z w0 w (X W 3 rv C2::X W 3 qv C::aZ (ko ms f.eJ)::aZ (fun w=>cX w yv ye yg S)::aZ (fun w=>cX w zv ze zg P)::ak pc 142 [E S.st,E S.bR,yv,ye,yg]::ak D 164 [vv,sv,H,.bool ex]::X fo 201 sv (ms++[⟨(k:Int),rv,qv,P.st⟩])::ak r 142 [E 0,E 0,nS,nS,nS]::ak pt 26 [a,b,c,d]::Γ):=Y.cw;have Y:=Z.rd (Δ:=[_,_,_]) (φ:=ko (ms++[⟨(k:Int),rv,qv,P.st⟩]) (f.eJ++[⟨(k:Int),C2,C,P.st⟩])) (fun _ _ h=>(h.ct 2 rfl).eQ rfl rfl (h.rs 0 rfl) (h.rs 1 rfl)) Y;obtain⟨ms,_u⟩:=À (ms++[⟨(k:Int),rv,qv,P.st⟩])
 obtain⟨LL,y⟩:=À (f.eJ++[⟨(k:Int),C2,C,P.st⟩]);rw[<-_u,<-y]at Y;rw[<-y]at K;refine aL rfl (YP (A:=S) (B:=P) (Y.ct 1 rfl) (Y.ct 2 rfl)) ?_;rintro _ w' ⟨uv,ue,ug,rfl,al⟩;refine qO ?_;clear al Y;intro Y;simp only[qC,kL]at Y;obtain⟨_p,_a⟩:=À (dB S P);obtain⟨S3,_k⟩:=À (jh S P);rw[<-_a,<-_k]at K ⊢;rw[<-_k]at Y;have o1:=(bk (s:=uv) Y).one;have o2:=(bk (s:=ue) Y).one;have o3:=(bk (s:=ug) Y).one;unfold cM;by_cases P':_p=0;rotate_left
 ·rw[aM P']at K
  have m:=H' _ _ P' K;obtain⟨Q,q⟩:=À _p;have o:Q≠0:=by rw[q];exact P'
  rw[<-q]at m ⊢;rw[cS o];refine O ?_;refine jF (n:=5) (p:=pc) (vs:=[E S3.st,E S3.bR,uv,ue,ug]) rfl rfl Y inferInstance rfl rfl (by simp only[eD,eN,o1,o2,o3];rfl) ?_;clear Y;intro w Y;refine O ?_;rw[m];have Y:Z w0 w (ak r 142 [E 0,E 0,nS,nS,nS]::ak D 164 [vv,sv,H,.bool ex]::X fo 201 sv ms::aZ (ko ms LL)::Γ):=Y.cw;refine lw (parts:=[]) (vs:=[]) rfl rfl rfl ?_;refine iE ?_;intro w Y;refine lM (p:=r) (vs:=[E 0,E 0,nS,nS,nS]) rfl rfl (v':=bI Q) (by rw[cS o];rfl) rfl (fun j v hv=>lK (i:=0) Y rfl hv) ⟨nS,nS,nS,sv,ms,ex,rfl,fun h=>absurd h o,?_⟩;have h9:Z w0 _ (aZ (fun w=>cX w (nS) (nS) (nS) cE)::_):=Z.pR (fun w=>⟨RS.nil,RS.nil,RS.nil⟩) Y;exact h9.cw
 rw[aC (fun h=>h P')]at K;rw[fK P'];refine O ?_;refine jF (n:=5) (p:=pc) (vs:=[E S3.st,E S3.bR,uv,ue,ug]) rfl rfl Y inferInstance rfl rfl (by simp only[eD,eN,o1,o2,o3];rfl) ?_;clear Y;intro w Y;refine O ?_;have j:S3.st=S.st*P.st:=by rw[_k];unfold jh;rw[aM (_a.symm.trans P')]
 have m:S.st*P.st<=4096:=by
  have h:=_a.symm.trans P';unfold dB at h;by_cases c1:dR S/\dR P/\S.aS=P.aS
  ·rw[aM c1]at h
   by_cases c2:4096<S.st*P.st
   ·rw[aM c2]at h;exact absurd h dc
   omega
  rw[aC c1]at h;exact absurd h dc
 have o:1*1<=S.st*P.st:=yx V'.qG _e.qG U (by have:=V'.qG;omega);refine⟨k+1,⟨rfl,az⟩,aU,⟨U,by rw[K],fun _=>?_,sv,ms,ex,uv,ue,ug,?_⟩,U⟩
 ·rw[K]
  refine⟨by show 1<=S3.st;omega,by show S3.st<=4096;omega,?_,by show LL.length=k+1;rw[y,length_append,x4];rfl⟩;show Ch t.vars LL S3.st;rw[j,y];exact Ch.eQ f.eJ f.eG.st S.st ⟨(k:Int),C2,C,P.st⟩ x3 (by show (k:Int)=_;rw[x4]) (by show (C2.length:Int)=_;rw[_e.len,_h,x4]) _e.dK (by rw[x4];omega) V'.len V'.dK m
 rw[K];have h1:Z w0 w (X W 3 uv S3.aS::X aT 190 ue S3.aD::X ah 4 ug S3.aQ::ak pc 142 [E S3.st,E S3.bR,uv,ue,ug]::ak D 164 [vv,sv,H,.bool ex]::X fo 201 sv ms::aZ (ko ms LL)::ak r 142 [E 0,E 0,nS,nS,nS]::ak pt 26 [a,b,c,d]::Γ):=Y.cw;have h2:=Z.rd (Δ:=[_,_,_]) (φ:=fun w=>cX w uv ue ug S3) (fun _ _ h=>⟨h.rs 0 rfl,h.rs 1 rfl,h.rs 2 rfl⟩) h1;exact h2.cw
def Ch.step {vars:J}{L:List kw}{n:Int}(h:Ch vars L n):∀ k,k<L.length->∃ y,y=L.getD k ⟨0,[],[],0⟩/\L.take (k+1)=L.take k++[y]/\y.var=(k:Int)/\((y.dS.length:Int)=vars.getD k W.dflt)/\(∀ i:Nat,i<y.dS.length->0<=y.dS.getD i W.dflt/\y.dS.getD i W.dflt<y.eJ)/\k<vars.length/\(0<k->∃ o m,Ch vars (L.take k) o/\((y.ou.length:Int)=o)/\(∀ i:Nat,i<y.ou.length->0<=y.ou.getD i W.dflt/\y.ou.getD i W.dflt<m)/\m*y.eJ<=4096):=by
 induction h with
 | one x hv d f g =>
  intro k hk;have:k=0:=by simp at hk;omega
  subst this
  exact⟨x,rfl,rfl,hv,d,f,g,fun h=>absurd h U⟩
 | eQ l n m y h hv d f g q j hm r =>
  intro k hk;by_cases c:k<l.length
  ·obtain⟨z,h1,u,v⟩:=r k c
   refine⟨z,?_,?_,?_⟩
   ·rw[h1,IK,aM c]
   ·rw[yp U,yp U];exact u
   rw[yp U];exact v
  rw[length_append,r6]at hk;have e:k=l.length:=U;subst e;refine⟨y,?_,?_,hv,d,f,g,fun _=>⟨n,m,?_,q,j,hm⟩⟩
  ·rw[IK,aC c,aM rfl]
  ·rw[yp (cD _),kV]
   have:l.length+1=(l++[y]).length:=by rw[length_append];rfl
   rw[this,kV]
  rw[yp (cD _),kV];exact h
def ko.at {w0 w:World}{Γ:List HP}{ms:List w7}{L:List kw}(h:ko ms L w0)(Y:Z w0 w Γ):ko ms L w:=⟨h.len,h.var,h.eJ,fun i b=>(h.dS i b).at Y,fun i b=>(h.ou i b).at Y⟩
def vM (w:World)(p:Addr)(t:aa)(L:List kw)(D:J):Prop:=∃ b c d e ms,dL w p [b,c,d,e]/\RS W w b t.vars/\RS fo w c ms/\ko ms L w/\RS W w d D
def vM.at {w0 w:World}{Γ:List HP}{p:Addr}{t:aa}{L:List kw}{D:J}(h:vM w0 p t L D)(Y:Z w0 w Γ):vM w p t L D:=by
 obtain⟨b,c,d,e,ms,h1,f,g,i,j⟩:=h;exact⟨b,c,d,e,ms,h1.at Y,f.at Y,g.at Y,i.at Y,j.at Y⟩
def ZQ {p:Addr}{D:J}{z:Value}{s:J}(g:vM w0 p t L D)(hk:∀ k,k<L.length->∃ n,Ch t.vars L n)(hD:0<=oo s L/\oo s L<D.length)(F:RS W w0 z s)(bL:ab t.vars s) :
  Calls ai 331 #[.pointer (some p),z] w0 fun e w'=>e=.returned (E (D.getD (oo s L).toNat W.dflt))/\Z w0 w' []:=by
 obtain⟨vv,sv,dv,xb,ms,h1,H,K,d,h5⟩:=g;have N:=d.len;have P:=K.bU;have Q:=bL.1;have Y:=Z.start w0;refine bA an Tryz.func331 ?_;refine O ?_;refine aL rfl (xR H (F.at Y)) ?_;rintro _ w' ⟨⟨r,rfl,g⟩,al⟩;refine aA ?_;clear al Y;intro Y;have h:r=true:=g.2 bL;subst h;refine O ?_;refine cP [5,8,25,52] (G:=Nat) (fun k=>[(25,E k),(5,E (oo s (L.take k)))]) (fun k w=>k<=L.length/\Z w0 w []) (fun k=>L.length-k) 0 (fun _=>rfl) ⟨rfl,rfl,az⟩ ⟨bu _,Y⟩ ?_;clear Y;rintro σ k w ⟨R,Y⟩;refine aB ?_ ?_<;>intro g1;rotate_left
 ·have b:k=L.length:=U
  rw[b,kV];refine O ?_;exact bf (v:=E (D.getD (oo s L).toNat W.dflt)) rfl rfl ⟨rfl,Y.aY⟩
 have b:k<L.length:=U;obtain⟨n,i⟩:=hk k b;obtain⟨y,S,f,c,T,j,V,o⟩:=i.step k b;have m1:=d.var k b;have m2:=d.eJ k b;have m3:=d.dS k b;have m4:=d.ou k b;rw[<-S]at m1 m2 m3 m4;rw[c]at m1;obtain⟨m,hm⟩:=À (ms.getD k fo.dflt);rw[<-hm]at m1 m2 m3 m4;obtain⟨mv,A,B,mt⟩:=m;have m1:mv=(k:Int):=m1;have m2:mt=y.eJ:=m2;have m3:RS W w0 A y.dS:=m3;have m4:RS W w0 B y.ou:=m4;subst m1 m2;have o3:=m3.one;have o4:=m4.one;refine db ?_;intro p w Y;rw[<-hm];refine jF (n:=4) (p:=p) (vs:=[E k,A,B,E y.eJ]) rfl rfl Y inferInstance rfl rfl (by simp only[eD,eN,o3,o4];rfl) ?_;clear Y;intro w Y;have j':=bL.2 k U;refine O ?_;refine fz (pl [0,1,2,3,4,5,6,7,8,9] []) Y kr ?_;clear Y;intro w Y;refine aB ?_ ?_<;>intro g2
 ·have q:k=0:=U
  subst q;refine O ?_;have x:oo s (L.take (0+1))=y.dS.getD (s.getD 0 W.dflt).toNat W.dflt:=by
   rw[f];show y.dS.getD (s.getD y.var.toNat W.dflt).toNat W.dflt=_;rw[c];rfl
  exact⟨0+1,⟨rfl,by rw[x];rfl,az⟩,aU,⟨U,Y.aY⟩,U⟩
 have q:0<k:=U;obtain⟨n',M',C,b2,b3,b4⟩:=o q;have b5:=C.at bL;have b6:=b3 (oo s (L.take k)).toNat U;have b7:=j (s.getD k W.dflt).toNat U;have x:oo s (L.take (k+1))=y.ou.getD (oo s (L.take k)).toNat W.dflt*y.eJ+y.dS.getD (s.getD k W.dflt).toNat W.dflt:=by
  rw[f,ML C.ne,c];rfl
 obtain⟨u,hu⟩:=À (y.ou.getD (oo s (L.take k)).toNat W.dflt);have b8:0<=u*y.eJ:=sj U U;have b9:(u+1)*y.eJ<=M'*y.eJ:=xV U U;rw[zM,Dq]at b9;have c1 : -9223372036854775808<=u*y.eJ:=U;have c2:u*y.eJ<=9223372036854775807:=U;refine O ?_;refine fz (pl [0,1,2,3,4,5,6,7,8,9,10] []) Y kr ?_;clear Y;intro w Y;refine O ?_;rw[<-hu];refine O ?_;exact⟨k+1,⟨rfl,by rw[x,<-hu];rfl,az⟩,aU,⟨U,Y.aY⟩,U⟩
def ϓ (b:Addr)(a:Value)(L:J)(c d:World):Prop:=(c.cell? b=some a->d.cell? b=some a)/\(RS W c a L->RS W d a L)
def BM (x:Int):Array Value:=#[E x]
def Wa {n:Nat}{e:Addr}{L:J}(u:w0.cell? e=some a)(g:RS W w0 a L) :
  SeqStopsK (α:=Int) Fence.wide n ai 113 #[.pointer (some e)] BM (ϓ e a L) (fun xs=>xs=L) (fun _=>True) L.length w0:=by
 intro l b D v x F A B y;refine(callsIn_wide (n:=n)).2 ?_;have c:v.cell? e=some a:=by
  have d:e.block<w0.heap.size:=by
   rcases nu e.block w0.heap.size with h|h
   ·exact h
   simp[World.cell?,tH h]at u
  rw[x.cell d];exact u
 have d:RS W v a L:=⟨g.1.below x,g.2⟩
 have C:=g.bU;refine bA an Tryz.func113 ?_;refine O ?_;refine qX rfl (wD rfl c) ?_;refine O ?_;refine cP [4,4,7,15] (G:=Nat) (fun k=>[(7,E k)]) (fun k w=>k<=L.length/\b (L.take k) w/\w.cell? e=some a/\RS W w a L) (fun k=>L.length-k) 0 (fun _=>rfl) ⟨rfl,az⟩ ⟨bu _,y,c,d⟩ ?_;clear c d y;rintro H k w ⟨hk,i,c,d⟩;refine aB ?_ ?_<;>intro h1
 ·have f:k<L.length:=U
  have z:=B (L.take k) (L.getD k W.dflt) w i (by rw[jd];omega);have j:L.take k++[L.getD k W.dflt]=L.take (k+1):=by rw[G4,kN f,am f];rfl
  rw[j]at z;refine O ?_;refine Pi (l:=l) rfl rfl z ?_;rintro _ K (⟨rfl,m,o,q⟩|⟨rfl,r⟩)
  ·refine⟨_,rfl,?_⟩
   refine O ?_;exact⟨k+1,⟨rfl,az⟩,aU,⟨U,m,o c,q d⟩,U⟩
  refine⟨_,rfl,?_⟩;refine O ?_;exact J6 rfl ⟨⟨_,rfl⟩,.inr ⟨_,az,r⟩⟩
 have f:k=L.length:=U;subst f;refine O ?_;rw[kV]at i;exact tj rfl ⟨⟨_,rfl⟩,.inl ⟨L,rfl,i⟩⟩
def Wj :
  Calls ai 88 #[a] w0 fun e w'=>∃ b,e=.returned (.func (.func 113) #[] #[.pointer (some b)])/\Z w0 w' [ak b 22 a.cells.toList]:=by
 have Y:=Z.start w0;refine bA an Tryz.func88 ?_;refine eE ?_;intro p w Y;exact bf (v:=.func (.func 113) #[] #[.pointer (some p)]) rfl rfl ⟨p,rfl,Y⟩
end
end Go.Proofs.YtmapkjoefdgjfaaGreatDoor
