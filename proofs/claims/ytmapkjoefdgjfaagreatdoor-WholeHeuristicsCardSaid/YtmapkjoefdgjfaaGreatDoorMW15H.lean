/- Several texts. -/
import Derived.Test.YtmapkjoefdgjfaaGreatDoorMW14H
set_option linter.unusedSimpArgs false
set_option linter.unusedVariables false
set_option linter.defProp false
set_option maxRecDepth 8000
set_option maxHeartbeats 16000000
open List Nat
namespace Go.Proofs.YtmapkjoefdgjfaaGreatDoor
open Go.Sl
variable {C:List J}{q:J}{d:Int}{w0:World}{a:Value}{cs:List Value}{P:Int->Prop}
section
open Go.Sl
def yK (a:Int):(a:Rat) / ((1:Int):Rat)=(a:Rat):=by
 grind
def Xn {f:bY}(h:ca f):(0<=bb f->0<=f.num)/\bb f<=((1099511627776:Int):Rat):=by
 obtain⟨h1,k,l,m,_⟩:=h;constructor
 ·intro hv
  have e:=ES (a:=f.num) (b:=f.den) (c:=0) (d:=1) U U;rw[yK]at e;have i:¬f.num*1<0*f.den:=fun g=>by
   have j:=e.1 g;have n:bb f<0:=j
   grind
  omega
 have e:=ES (a:=1099511627776) (b:=1) (c:=f.num) (d:=f.den) U U;rw[yK]at e;have i:¬(1099511627776:Int)*f.den<f.num*1:=U;have j:¬((1099511627776:Int):Rat)<bb f:=fun g=>i (e.2 g)
 grind
section
variable {t:aa}{s:J}
def PJ {g many:J}:∀ {l:J}{i:Nat}{cM f:bY},(∀ op∈l,0<=g.getD op.toNat W.dflt/\1<=many.getD op.toNat W.dflt)->mA g many i cM l=(0,f)->(i≠0->ca cM/\0<=bb cM)->(l≠[]\/i≠0) ->
  ca f/\0<=bb f/\(i≠0->bb f<=bb cM)/\∀ op∈l,bb f<=((g.getD op.toNat W.dflt:Int):Rat) / ((many.getD op.toNat W.dflt:Int):Rat)
 | [],i,cM,f,_,h,r,u=>by
  have e:f=cM:=by unfold mA at h;exact(uZ Prod.snd h).symm
  grind
 | op::l,i,cM,f,j,h,r,u=>by
  obtain⟨N,x⟩:=À (nC (g.getD op.toNat W.dflt) (many.getD op.toNat W.dflt));unfold mA at h;rw[<-x]at h;split at h;rotate_left
  ·grind
  rename_i z;obtain⟨A,B⟩:=j op ku;obtain⟨v1,v2⟩:=Kw (num:=g.getD op.toNat W.dflt) (den:=many.getD op.toNat W.dflt) (f:=N.2) U (by grind);have y:0<=bb N.2:=by
   have m:=ES (a:=g.getD op.toNat W.dflt) (b:=many.getD op.toNat W.dflt) (c:=0) (d:=1) U U;rw[yK]at m;have k:¬g.getD op.toNat W.dflt*1<0*many.getD op.toNat W.dflt:=U;have n:¬bb N.2<0:=fun u=>k (m.2 (by grind))
   grind
  obtain⟨L,v⟩:∃ L,L=if i=0\/lT N.2 cM<0 then N.2 else cM:=⟨_,rfl⟩
  rw[<-v]at h;have k:ca L/\0<=bb L/\(i≠0->bb L<=bb cM)/\bb L<=bb N.2:=by
   rw[v];by_cases n:i=0
   ·grind
   obtain⟨o,F⟩:=r n;have m:=(Kx v2 o).1
   grind
  obtain⟨n,F,G,H⟩:=PJ (fun o m=>j o (nt _ m)) h (fun _=>⟨k.1,k.2.1⟩) (.inr (succ_ne_zero i))
  grind
def PK {b many:J}:∀ {C:List J}{out l:List bY},pZ b many out C=(0,l)->∃ l2,l=out++l2/\l2.length=C.length/\∀ i,i<C.length->mA b many 0 dF (C.getD i [])=(0,l2.getD i dF)
 | [],out,l,h=>by
  unfold pZ at h
  simp_all
 | c::C,out,l,h=>by
  unfold pZ at h;split at h
  ·rename_i e
   obtain⟨l2,h1,f,g⟩:=PK h
   grind
  grind
def Xo {op i:Nat}(hi:i<C.length)(h:(op:Int)∈C.getD i []):1<=gm C op:=by
 unfold gm
 grind
def PL {n:Nat}{op:Nat}(h:op<n):(gM n C).getD op W.dflt=((gm C op:Nat):Int):=by
 simp[gM,List.getD,h]
def Xp (I:aJ t){l:List bY}(j:na (ao t).length C=0)(h:pZ (ao t) (gM (ao t).length C) [] C=(0,l)):j1 t C (l.map bb):=by
 obtain⟨m,h1,n,k⟩:=PK h;rw[lQ]at h1;subst h1;obtain⟨_,f⟩:=HC j;have key:∀ i,i<C.length->ca (l.getD i dF)/\0<=bb (l.getD i dF)/\∀ op∈C.getD i [],bb (l.getD i dF)<=(((ao t).getD op.toNat W.dflt:Int):Rat) / (((gM (ao t).length C).getD op.toNat W.dflt:Int):Rat):=fun i b=>by
  obtain⟨c1,c2⟩:=f _ (cS [] b)
  obtain⟨g,a2,_,a4⟩:=PJ (fun op e=>by
   have o:=Xq c2 op e;have c:op.toNat<(ao t).length:=U;refine⟨(zp I _ (cS W.dflt c)).1,?_⟩;rw[PL c];have:=Xo (op:=op.toNat) b (by grind)
   omega) (k i b) (fun h=>absurd rfl h) (.inl c1)
  grind
 have c:∀ i,i<C.length->(l.map bb).getD i 0=bb (l.getD i dF):=fun i b=>by
  grind
 refine Xr I (by grind) (fun x hx=>?_) (fun i b op e hm=>?_)
 ·obtain⟨i,b,rfl⟩:=ga hx
  grind
 rw[c i b];have g:=(key i b).2.2 _ hm;rw[jU,PL (by rw[tC];exact e),tD e]at g;exact g
def Xs (I:aJ t){l:List bY}(h:kw (iW C) (gV (gn (ao t) C)) (jm (gn (ao t) C))=(0,l)):j1 t C (l.map bb):=by
 have c:∀ x∈ao t,0<=x/\x<=1048576:=zp I;have g:(gV (gn (ao t) C)).length=(gn (ao t) C).length:=by simp[gV]
 have i:(iW C).length=C.length:=by simp[iW]
 have b:=Ky (C:=C) c;obtain⟨x,hx⟩:=PM (HD b) (Kz b);unfold kw at h;split at h
 ·grind
 rw[hx]at h;obtain⟨e,f⟩:=x;simp only at h;split at h
 ·rename_i j
  subst j;have k:l=kc (iW C).length f.bW f.right (replicate (iW C).length jy):=(uZ Prod.snd h).symm;rw[k,i];rw[g]at hx;exact Xt I c hx
 grind
def vu (t:aa):Prop:=∀ {C:List J}{l:List bY},kw (iW C) (gV (gn (ao t) C)) (jm (gn (ao t) C))=(0,l)->j1 t C (l.map bb)
def Xu (I:aJ t){kind:Int}(f:kind=1\/kind=2\/vu t)(h:(fJ kind (ao t) C).1=0):j1 t C ((fJ kind (ao t) C).2.map bb):=by
 unfold fJ at h ⊢;by_cases c:na (ao t).length C=0;rotate_left
 ·grind
 rw[ba c]at h ⊢;by_cases h1:kind=1
 ·rw[ba h1]
  have e:((lD (ao t) C).map xJ).map bb=(lD (ao t) C).map fun x=>((x:Int):Rat):=by
   rw[Bb];exact Bc fun x _=>PN x
  show j1 t C (((lD (ao t) C).map xJ).map bb);rw[e];exact Xv I C
 rw[aM h1]at h ⊢;by_cases b:kind=2
 ·rw[ba b]at h ⊢
  exact Xp I c (by rw[<-h])
 rw[aM b]at h ⊢;exact((f.resolve_left h1).resolve_left b) (by rw[<-h])
def PO (I:aJ t){kind:Int}(e:kind=1\/kind=2\/vu t)(h:(uI kind (ao t) C).1=0):∃ (l:List bY) (f:bY),j1 t C (l.map bb)/\ca f/\bb f=bH (fun i=>(l.map bb).getD i 0) C.length/\(uI kind (ao t) C).2=mO f:=by
 unfold uI at h ⊢;by_cases h1:(fJ kind (ao t) C).1=0;rotate_left
 ·grind
 rw[ba h1]at h ⊢;have b:=Xu I e h1;generalize (fJ kind (ao t) C).2=l at h b ⊢;unfold xl at h ⊢;by_cases c:(nD ⟨0,1⟩ l).1=0;rotate_left
 ·grind
 rw[ba c];obtain⟨g1,g2⟩:=PP (l:=l) (s:=⟨0,1⟩) (f:=(nD ⟨0,1⟩ l).2) (HE c rfl) DA;refine⟨l,_,b,g1,?_,rfl⟩;have g:=b.len;rw[lA]at g;have j:bb ⟨0,1⟩=0:=ET
 grind
def PQ (I:aJ t){kind:Int}(j:kind=1\/kind=2\/vu t)(h:(uI kind (ao t) C).1=0):0<=(uI kind (ao t) C).2/\(uI kind (ao t) C).2<=bZ:=by
 obtain⟨l,f,c,g,hv,e⟩:=PO I j h;rw[e];obtain⟨v1,v2⟩:=Xn g;have k:=PR g v2;refine⟨Xw (v1 ?_),uJ k dc⟩;rw[hv];refine KA fun i m=>?_;have b:i<(l.map bb).length:=by rw[c.len];exact m
 rw[aq b];exact c.nn _ (zq b)
def KB:∀ {l:List bE}{out:List J}{c:J},c∈gq t s l out->c∈out\/∃ f∈l,c=sS t s f
 | [],out,c,h=>by unfold gq at h;exact .inl h
 | f::l,out,c,h=>by
  unfold gq at h;split at h
  ·rcases KB h with h|⟨g,I,e⟩
   ·exact .inl h
   grind
  rcases KB h with h|⟨g,I,e⟩
  ·grind
  grind
def PS {f:bE}(h:¬ub t s f):∃ g∈t.aF,¬tP t s f g:=oE fun b=>h fun g I=>oE fun c=>b ⟨g,I,c⟩
open Classical in
def Xx (I:aJ t)(b:aj t.vars s)(e:mg t s q d){c:J}(h:c∈gq t s (dK t s) []):∃ op:Nat,(op:Int)∈q/\(op:Int)∈c:=by
 rcases KB h with h|⟨f,g,rfl⟩
 ·grind
 have h1:sD t s f=true:=(wT.1 g).2;unfold sD at h1;have h1:=x5 h1;obtain⟨op,i,k,j,l,m,n⟩:=HF.AL (f:=f) (PS h1.2) I b e;refine⟨op,i,EU.2 (iG.2 ⟨⟨op,mP (t.M.getD op bz) j,wU (t.M.getD op bz) j⟩,wT.2 ⟨HG.2 ⟨op,j,k,l,rfl⟩,?_⟩,rfl⟩)⟩;unfold tQ
 grind
def PU (I:aJ t)(j:aj t.vars s){kind:Int}(k:kind=1\/kind=2\/vu t)(m:∀ c∈C,c∈gq t s (dK t s) [])(h:(uI kind (ao t) C).1=0)(g:mg t s q d):(uI kind (ao t) C).2<=d:=by
 obtain⟨l,f,n,b,hv,e⟩:=PO I k h;rw[e];refine PR b ?_;rw[hv];exact n.low g fun i o=>Xx I j g (m _ (cS [] o))
def PV (I:aJ t)(kind:Int)(c:kind=1\/kind=2\/vu t):0<=gC t kind s/\gC t kind s<=bZ:=by
 have e:(0:Int)<=bZ:=dc;unfold gC;split;rotate_left
 ·omega
 rename_i h;unfold sT at h ⊢;split at h
 ·rename_i h1
  rw[ba h1];split at h
  ·rename_i b
   rw[ba b];exact PQ I (.inl rfl) h
  rename_i b;rw[aM b];exact PQ I c h
 grind
def Xy (I:aJ t)(e:aj t.vars s)(kind:Int)(i:kind=1\/kind=2\/vu t)(b:mg t s q d):gC t kind s<=d:=by
 have g:∀ c∈(gq t s (dK t s) []).take 24,c∈gq t s (dK t s) []:=fun c j=>rZ j;unfold gC;split;rotate_left
 ·exact b.nn I
 rename_i h;unfold sT at h ⊢;split at h
 ·rename_i h1
  rw[ba h1];split at h
  ·rename_i f
   rw[ba f];exact PU I e (.inl rfl) g h b
  rename_i f;rw[aM f];exact PU I e i g h b
 rename_i h1;exact(Xz I e (PS h1) b).elim
end
end
section
open Go.Sl Go
attribute [local irreducible] vc opsW opsD opV opW PureV ReadV Thn Blk

end
section
open Go.Sl
section
variable {t:aa}{D less:J}
end
end
section
open Go.Sl Go
attribute [local irreducible] vc opsW opsD opV opW PureV ReadV Thn Blk
def GK (w0:World)(f:Nat)(cs:List Value)(P:Int->Prop)(xs:J):Prop:=∀ (w:World) (b:List HP),Z w0 w b->∀ x∈xs,Calls ak f ([Value.int .i64 x]++cs).toArray w fun e w'=>(∃ r,e=.returned (.bool r)/\(r=true↔P x))/\Z w w' []
def XA {xs:J}{f:Nat}[au ak f](l:RS W w0 a xs)(m:GK w0 f cs P xs) :
  Calls ak 71 #[a,.func (.func f) #[] cs.toArray] w0 fun e w'=>(∃ r:Int,e=.returned (E r)/\(0<=r↔∃ x∈xs,P x))/\Z w0 w' []:=by
 have n:=l.cn;have Y:=Z.start w0;refine bI ar Tryz.func71 ?_;refine O ?_;refine de [4,5,8,18] (G:=Nat) (fun k=>[(8,E k)]) (fun k w=>k<=xs.length/\(∀ i,i<k->¬P (xs.getD i W.dflt))/\Z w0 w []) (fun k=>xs.length-k) 0 (fun _=>rfl) ⟨rfl,az⟩ ⟨bC _,fun i g=>absurd g (eo _),Y⟩ ?_;clear Y;rintro u k w ⟨hk,b,Y⟩;refine aC ?_ ?_<;>intro h1
 ·have c:k<xs.length:=U
  refine O ?_;refine xK (cs:=cs) rfl rfl (m _ _ Y _ (cS W.dflt c)) ?_;rintro _ w' ⟨⟨r,rfl,j⟩,aw⟩;refine aL ?_;clear aw Y;intro Y;cases r
  ·have o:¬P (xs.getD k W.dflt):=fun h=>by cases j.2 h
   refine O ?_;refine⟨k+1,⟨rfl,az⟩,aX,⟨U,fun i g=>?_,Y⟩,U⟩;by_cases h:i=k
   ·subst h;exact o
   exact b i U
  refine O ?_;exact bo (v:=E k) rfl rfl ⟨⟨k,rfl,⟨fun _=>⟨_,cS W.dflt c,j.1 rfl⟩,fun _=>U⟩⟩,Y⟩
 refine O ?_;refine bo (v:=E (-1)) rfl rfl ⟨⟨-1,rfl,⟨fun h=>U,?_⟩⟩,Y⟩;rintro⟨x,hx,he⟩;obtain⟨i,g,rfl⟩:=Bd.1 hx;exact absurd (by rw[aq g];exact he) (b i U)
def XB {xs:J}{f:Nat}[au ak f](b:RS W w0 a xs)(c:GK w0 f cs P xs) :
  Calls ak 44 #[a,.func (.func f) #[] cs.toArray] w0 fun e w'=>(∃ r,e=.returned (.bool r)/\(r=true↔∃ x∈xs,P x))/\Z w0 w' []:=by
 have Y:=Z.start w0;refine bI ar Tryz.func44 ?_;refine O ?_;refine aR rfl (XA b c) ?_;rintro _ w' ⟨⟨r,rfl,g⟩,aw⟩;refine aL ?_;clear aw Y;intro Y;refine O ?_;exact bo (v:=.bool (decide (0<=r))) rfl rfl ⟨⟨_,rfl,by rw[jV];exact g⟩,Y⟩
def KC {t:aa}{k:Nat}(h:k<t.M.length):kX t (k+1)=min (kX t k) (t.M.getD k bz).aT:=by
 unfold kX;rw[eX bz h,u0];rfl
def PW {w:World}{t:aa}{gv:Value}(h:RS aD w gv t.aF):gW w (.iface 89 (.agg #[gv,E (gH t)])) t (cX t) :=
 ⟨_,_,_,_,rfl,HH _,inferInstance,fun _ _ _ _ c b _=>XC (h.at c) b⟩
def XD {b c d:Value}{vs:List kq}{t:aa}(x:bR w0 a b c d vs t)(I:aJ t) :
  Calls ak 24 #[.agg #[a,b,c,d]] w0 fun e w'=>∃ p,e=.returned (.tuple #[.pointer (some p),.nilIface])/\Z w0 w' [bA fun w=>cF w p t (cX t)]:=by
 have i:=x;obtain⟨N,Q,z,n⟩:=x;have A:=n.rs;have B:=n.len;have F:=tR I.aF;have K:=I.vars;have L:=I.M;have Y:=Z.start w0;refine bI ar Tryz.func24 ?_;refine ep ?_;intro o w Y;refine dP [4,4,6,6,10,18] (G:=Nat) (H:=Int) (fun k m=>[(10,E k),(4,E m)]) (fun k m w=>k<=t.M.length/\m=kX t k/\Z w0 w [am o 26 [a,b,c,d]]) (fun k _=>t.M.length-k) 0 bZ (fun _ _=>rfl) ⟨rfl,rfl,az⟩ ⟨bC _,rfl,Y⟩ ?_;clear Y;rintro R k m w ⟨hk,hm,Y⟩;refine aC ?_ ?_<;>intro h1
 ·have f:k<t.M.length:=U
  have j:=n.eI k f;have r:=j.one;have l:=j.aT;refine ep ?_;intro p w Y;exact⟨k+1,_,⟨rfl,rfl,az⟩,aX,⟨U,by rw[KC f,hm,<-l];split<;>omega,Y.bj⟩,U⟩
 have r:k=t.M.length:=U;subst r;have u:m=gH t:=hm;subst u;refine O ?_;refine rJ [2,3,19,30] (G:=Addr) (fun g=>[(2,.pointer (some g)),(3,.nilIface)]) (fun g w=>Z w0 w [bA fun w=>cF w g t (cX t)]) (fun _=>rfl) ?_ ?_
 ·refine u7 (.s [1,4,0,2,7] (.c 3 [0,7] (.d 5 [0,7] (.s [6] (.c 8 [0] (.s [9,10,11,12,13] (.jz [])))) (.d 8 [0] (.c 5 [0,7] (.s [6,9,10,11,12,13] (.jz []))) (.stop))))) Y kr kr ?_;clear Y;intro w Y
  refine O ?_;refine aR rfl (Cl (z.at Y) U) ?_;rintro _ w' ⟨gv,rfl,aw⟩;refine aO ?_;clear aw Y;intro Y;have y:=(bB (s:=gv) Y).one;refine O ?_;refine jl ?_ (jl ?_ pP)
  ·refine O ?_
   refine zr (v1:=gv) (v2:=E (gH t)) rfl rfl rfl (by simp only[fo,fB,y];rfl) ?_;refine O ?_;refine O ?_;refine aR rfl (xL (i.at Y)) ?_;rintro _ w' ⟨rfl,aw⟩;refine aL ?_;clear aw Y;intro Y;rw[ff ((tE t).2 I)];refine O ?_;refine aR rfl (zT (h:=.iface 89 (.agg #[gv,E (gH t)])) (H:=cX t) (i.at Y) I ⟨_,_,rfl⟩) ?_;rintro _ w' ⟨f,rfl,aw⟩;refine aO ?_;clear aw Y;intro Y;refine O ?_;have j:Z w0 w' [bA fun w=>gW w (.iface 89 (.agg #[gv,E (gH t)])) t (cX t)->cF w f t (cX t),X aD 63 gv t.aF,am o 26 [a,b,c,d]]:=Y;have l:=Z.rd (Δ:=[bA fun w=>gW w (.iface 89 (.agg #[gv,E (gH t)])) t (cX t)->cF w f t (cX t),X aD 63 gv t.aF]) (φ:=fun w=>cF w f t (cX t)) (fun _ w h=>(h.dQ 0 rfl) (PW (h.rs 1 rfl))) j;exact⟨f,⟨rfl,rfl,az⟩,aX,l.bj⟩
  refine O ?_;refine aR rfl (xL (i.at Y)) ?_;rintro _ w' ⟨rfl,aw⟩;refine aL ?_;clear aw Y;intro Y;rw[ff ((tE t).2 I)];refine O ?_;refine O ?_;refine zr (v1:=gv) (v2:=E (gH t)) rfl rfl rfl (by simp only[fo,fB,y];rfl) ?_;refine O ?_;refine aR rfl (zT (h:=.iface 89 (.agg #[gv,E (gH t)])) (H:=cX t) (i.at Y) I ⟨_,_,rfl⟩) ?_;rintro _ w' ⟨f,rfl,aw⟩;refine aO ?_;clear aw Y;intro Y;refine O ?_;have j:Z w0 w' [bA fun w=>gW w (.iface 89 (.agg #[gv,E (gH t)])) t (cX t)->cF w f t (cX t),X aD 63 gv t.aF,am o 26 [a,b,c,d]]:=Y;have l:=Z.rd (Δ:=[bA fun w=>gW w (.iface 89 (.agg #[gv,E (gH t)])) t (cX t)->cF w f t (cX t),X aD 63 gv t.aF]) (φ:=fun w=>cF w f t (cX t)) (fun _ w h=>(h.dQ 0 rfl) (PW (h.rs 1 rfl))) j;exact⟨f,⟨rfl,rfl,az⟩,aX,l.bj⟩
 clear Y;rintro j f w Y;refine O ?_;exact dw (v:=.pointer (some f)) (v':=.nilIface) rfl rfl rfl ⟨f,rfl,Y⟩
end
end Go.Proofs.YtmapkjoefdgjfaaGreatDoor
