/- Several texts. -/
import Derived.Test.YtmapkjoefdgjfaaGreatDoorMW14E
set_option linter.unusedSimpArgs false
set_option linter.unusedVariables false
set_option linter.defProp false
set_option maxRecDepth 8000
set_option maxHeartbeats 16000000
open List Nat
namespace Go.Proofs.YtmapkjoefdgjfaaGreatDoor
open Go.Sl
variable {C:List J}{w0:World}{a b c d tv:Value}{vs:List iW}{q T:J}{cs:List Value}{P:Int->Prop}
section
open Go.Sl
def w8 (a:Int):(a:Rat) / ((1:Int):Rat)=(a:Rat):=by
 have:((1:Int):Rat)=1:=rfl;rw[this];grind
def Uy {f:da}(h:eh f):(0<=cr f->0<=f.num)/\cr f<=((1099511627776:Int):Rat):=by
 obtain⟨h1,k,l,m,_⟩:=h;constructor
 ·intro hv
  have e:=Dj (a:=f.num) (b:=f.den) (c:=0) (d:=1) U U;rw[w8]at e;have i:¬f.num*1<0*f.den:=fun g=>by
   have j:=e.1 g;have n:cr f<0:=j;exact absurd hv (by grind)
  omega
 have e:=Dj (a:=1099511627776) (b:=1) (c:=f.num) (d:=f.den) U U;rw[w8]at e;have i:¬(1099511627776:Int)*f.den<f.num*1:=U;have j:¬((1099511627776:Int):Rat)<cr f:=fun g=>i (e.2 g)
 grind
section
variable {t:aa}{s:J}
def NA {g many:J}:∀ {l:J}{i:Nat}{dq f:da},(∀ op∈l,0<=g.getD op.toNat W.dflt/\1<=many.getD op.toNat W.dflt)->jO g many i dq l=(0,f)->(i≠0->eh dq/\0<=cr dq)->(l≠[]\/i≠0) ->
  eh f/\0<=cr f/\(i≠0->cr f<=cr dq)/\∀ op∈l,cr f<=((g.getD op.toNat W.dflt:Int):Rat) / ((many.getD op.toNat W.dflt:Int):Rat)
 | [],i,dq,f,_,h,v,x=>by
  have e:f=dq:=by unfold jO at h;exact(qy Prod.snd h).symm
  subst e;have j:i≠0:=x.resolve_left fun h=>h rfl
  exact⟨(v j).1,(v j).2,fun _=>zF,fun op n=>absurd n fI⟩
 | op::l,i,dq,f,r,h,v,x=>by
  obtain⟨N,z⟩:=À (me (g.getD op.toNat W.dflt) (many.getD op.toNat W.dflt));unfold jO at h;rw[<-z]at h;split at h;rotate_left
  ·rename_i y
   exact absurd (qy Prod.fst h) y
  rename_i y;obtain⟨H,K⟩:=r op gz;obtain⟨v1,v2⟩:=NB (num:=g.getD op.toNat W.dflt) (den:=many.getD op.toNat W.dflt) (f:=N.2) U (by rw[<-z,<-y]);have u:0<=cr N.2:=by
   have o:=Dj (a:=g.getD op.toNat W.dflt) (b:=many.getD op.toNat W.dflt) (c:=0) (d:=1) U U;rw[w8]at o;have k:¬g.getD op.toNat W.dflt*1<0*many.getD op.toNat W.dflt:=U;have m:¬cr N.2<0:=fun x=>k (o.2 (by rw[<-v1];exact x))
   grind
  obtain⟨L,A⟩:∃ L,L=if i=0\/lO N.2 dq<0 then N.2 else dq:=⟨_,rfl⟩
  rw[<-A]at h;have k:eh L/\0<=cr L/\(i≠0->cr L<=cr dq)/\cr L<=cr N.2:=by
   rw[A];by_cases j:i=0
   ·rw[aM (.inl j)];exact⟨v2,u,fun h=>absurd j h,zF⟩
   obtain⟨B,F⟩:=v j;have o:=(Uz v2 B).1;by_cases m:lO N.2 dq<0
   ·rw[aM (.inr m)]
    have:=o.1 m;exact⟨v2,u,fun _=>by grind,zF⟩
   rw[aC (fun h=>h.elim j m)];have:¬cr N.2<cr dq:=fun h=>m (o.2 h);exact⟨B,F,fun _=>zF,by grind⟩
  obtain⟨B,F,m,G⟩:=NA (fun o n=>r o (iR _ n)) h (fun _=>⟨k.1,k.2.1⟩) (.inr (succ_ne_zero i));have m:=m (succ_ne_zero i);refine⟨B,F,fun j=>?_,fun o n=>?_⟩
  ·have:=k.2.2.1 j;grind
  rcases ee.1 n with rfl|n
  ·rw[<-v1];have:=k.2.2.2;grind
  exact G o n
def NC {e many:J}:∀ {C:List J}{out l:List da},nJ e many out C=(0,l)->∃ l2,l=out++l2/\l2.length=C.length/\∀ i,i<C.length->jO e many 0 dF (C.getD i [])=(0,l2.getD i dF)
 | [],out,l,h=>by
  unfold nJ at h
  exact⟨[],by rw[fS];exact(qy Prod.snd h).symm,rfl,fun i f=>absurd f (dr _)⟩
 | c::C,out,l,h=>by
  unfold nJ at h;split at h
  ·rename_i g
   obtain⟨l2,h1,j,k⟩:=NC h;refine⟨(jO e many 0 dF c).2::l2,by rw[h1];simp,by simp[j],fun i f=>?_⟩
   cases i with
   | zero=>show jO e many 0 dF c=(0,(jO e many 0 dF c).2);rw[<-g]
   | succ i=>exact k i (by simpa using f)
  rename_i g;exact absurd (qy Prod.fst h) g
def UA {op i:Nat}(hi:i<C.length)(h:(op:Int)∈C.getD i []):1<=fC C op:=by
 unfold fC;exact I0.2 ⟨_,cH [] hi,by simpa using h⟩
def ND {n:Nat}{op:Nat}(h:op<n):(fT n C).getD op W.dflt=((fC C op:Nat):Int):=by
 simp[fT,List.getD,h]
def UB (I:aG t){l:List da}(n:mQ (ar t).length C=0)(h:nJ (ar t) (fT (ar t).length C) [] C=(0,l)):kF t C (l.map cr):=by
 obtain⟨u,h1,j,o⟩:=NC h;rw[kL]at h1;subst h1;obtain⟨_,k⟩:=I1 n;have key:∀ i,i<C.length->eh (l.getD i dF)/\0<=cr (l.getD i dF)/\∀ op∈C.getD i [],cr (l.getD i dF)<=(((ar t).getD op.toNat W.dflt:Int):Rat) / (((fT (ar t).length C).getD op.toNat W.dflt:Int):Rat):=fun i e=>by
  obtain⟨c1,c2⟩:=k _ (cH [] e)
  obtain⟨m,a2,_,a4⟩:=NA (fun op f=>by
   have r:=UC c2 op f;have g:op.toNat<(ar t).length:=U;refine⟨(Cc I _ (cH W.dflt g)).1,?_⟩;rw[ND g];have:=UA (op:=op.toNat) e (by rw[gA r.1];exact f)
   omega) (o i e) (fun h=>absurd rfl h) (.inl c1)
  exact⟨m,a2,a4⟩
 have g:∀ i,i<C.length->(l.map cr).getD i 0=cr (l.getD i dF):=fun i e=>by
  rw[am (by rw[iz];omega),mK,<-am (d:=dF) U]
 refine UD I (by rw[iz,j]) (fun x hx=>?_) (fun i e op f hm=>?_)
 ·obtain⟨i,e,rfl⟩:=fJ hx
  rw[iz,j]at e;rw[<-am (d:=0) (by rw[iz,j];exact e),g i e];exact(key i e).2.1
 rw[g i e];have m:=(key i e).2.2 _ hm;rw[jo,ND (by rw[uA];exact f),vZ f]at m;exact m
def tU (t:aa):Prop:=∀ {C:List J}{l:List da},EP (EQ C) (ER (uU (ar t) C)) (ES (uU (ar t) C))=(0,l)->kF t C (l.map cr)
def UE (I:aG t){kind:Int}(i:kind=1\/kind=2\/tU t)(h:(gg kind (ar t) C).1=0):kF t C ((gg kind (ar t) C).2.map cr):=by
 unfold gg at h ⊢;by_cases f:mQ (ar t).length C=0;rotate_left
 ·rw[aC f]at h;exact absurd h f
 rw[aM f]at h ⊢;by_cases h1:kind=1
 ·rw[aM h1]
  have e:((jr (ar t) C).map yl).map cr=(jr (ar t) C).map fun x=>((x:Int):Rat):=by
   rw[zG];exact xN fun x _=>UF x
  show kF t C (((jr (ar t) C).map yl).map cr);rw[e];exact UG I C
 rw[aC h1]at h ⊢;by_cases g:kind=2
 ·rw[aM g]at h ⊢
  exact UB I f (by rw[<-h])
 rw[aC g]at h ⊢;exact((i.resolve_left h1).resolve_left g) (by rw[<-h])
def NE (I:aG t){kind:Int}(k:kind=1\/kind=2\/tU t)(h:(th kind (ar t) C).1=0):∃ (l:List da) (f:da),kF t C (l.map cr)/\eh f/\cr f=dx (fun i=>(l.map cr).getD i 0) C.length/\(th kind (ar t) C).2=lB f:=by
 unfold th at h ⊢;by_cases h1:(gg kind (ar t) C).1=0;rotate_left
 ·rw[aC h1]at h;exact absurd h h1
 rw[aM h1]at h ⊢;have g:=UE I k h1;generalize (gg kind (ar t) C).2=l at h g ⊢;unfold vI at h ⊢;by_cases e:(mf ⟨0,1⟩ l).1=0;rotate_left
 ·rw[aC e]at h;exact absurd h e
 rw[aM e];obtain⟨g1,g2⟩:=NF (l:=l) (s:=⟨0,1⟩) (f:=(mf ⟨0,1⟩ l).2) (Prod.ext e rfl) UH;refine⟨l,_,g,g1,?_,rfl⟩;have j:=g.len;rw[iz]at j;have m:cr ⟨0,1⟩=0:=UI;rw[g2,m,j];have n:dx (fun i=>cr (l.getD i ⟨0,1⟩)) C.length=dx (fun i=>(l.map cr).getD i 0) C.length:=AZ fun i o=>by
  rw[am U,am (l:=l.map cr) (by rw[iz];omega),mK]
 rw[n];grind
def NG (I:aG t){kind:Int}(m:kind=1\/kind=2\/tU t)(h:(th kind (ar t) C).1=0):0<=(th kind (ar t) C).2/\(th kind (ar t) C).2<=bH:=by
 obtain⟨l,f,j,k,hv,e⟩:=NE I m h;rw[e];obtain⟨v1,v2⟩:=Uy k;have n:=NH k v2;refine⟨UJ (v1 ?_),rU n dc⟩;rw[hv];refine NI fun i o=>?_;have g:i<(l.map cr).length:=by rw[j.len];exact o
 rw[am g];exact j.nn _ (wq g)
def I2:∀ {l:List bp}{out:List J}{c:J},c∈fD t s l out->c∈out\/∃ f∈l,c=rf t s f
 | [],out,c,h=>by unfold fD at h;exact .inl h
 | f::l,out,c,h=>by
  unfold fD at h;split at h
  ·rcases I2 h with h|⟨g,I,e⟩
   ·exact .inl h
   exact .inr ⟨g,iR _ I,e⟩
  rcases I2 h with h|⟨g,I,e⟩
  ·rcases gG.1 h with h|h
   ·exact .inl h
   exact .inr ⟨f,gz,dp.1 h⟩
  exact .inr ⟨g,iR _ I,e⟩
def NJ {f:bp}(h:¬sD t s f):∃ g∈t.aH,¬sa t s f g:=nr fun e=>h fun g I=>nr fun i=>e ⟨g,I,i⟩
open Classical in
def UK (I:aG t)(e:ab t.vars s){d:Int}(g:mL t s q d){c:J}(h:c∈fD t s (dh t s) []):∃ op:Nat,(op:Int)∈q/\(op:Int)∈c:=by
 rcases I2 h with h|⟨f,i,rfl⟩
 ·exact absurd h fI
 have h1:qW t s f=true:=(rV.1 i).2;unfold qW at h1;have h1:=uB h1;obtain⟨op,k,l,j,m,n,o⟩:=FS.zb (f:=f) (NJ h1.2) I e g;refine⟨op,k,Dk.2 (iS.2 ⟨⟨op,lC (t.M.getD op bj) j,vq (t.M.getD op bj) j⟩,rV.2 ⟨FT.2 ⟨op,j,l,m,rfl⟩,?_⟩,rfl⟩)⟩;unfold sb;exact dy ⟨n,o⟩
def NK (I:aG t)(k:ab t.vars s){kind:Int}(m:kind=1\/kind=2\/tU t)(n:∀ c∈C,c∈fD t s (dh t s) [])(h:(th kind (ar t) C).1=0){d:Int}(j:mL t s q d):(th kind (ar t) C).2<=d:=by
 obtain⟨l,f,o,g,hv,e⟩:=NE I m h;rw[e];refine NH g ?_;rw[hv];exact o.low j fun i r=>UK I k j (n _ (cH [] r))
def NL (I:aG t)(kind:Int)(g:kind=1\/kind=2\/tU t):0<=jP t kind s/\jP t kind s<=bH:=by
 have f:(0:Int)<=bH:=dc;unfold jP;split;rotate_left
 ·exact⟨dt _,f⟩
 rename_i h;unfold rh at h ⊢;split at h
 ·rename_i h1
  rw[aM h1];split at h
  ·rename_i e
   rw[aM e];exact NG I (.inl rfl) h
  rename_i e;rw[aC e];exact NG I g h
 rename_i h1;rw[aC h1];exact⟨f,dt _⟩
def UL (I:aG t)(f:ab t.vars s)(kind:Int)(j:kind=1\/kind=2\/tU t){d:Int}(e:mL t s q d):jP t kind s<=d:=by
 have i:∀ c∈(fD t s (dh t s) []).take 24,c∈fD t s (dh t s) []:=fun c k=>pO k;unfold jP;split;rotate_left
 ·exact e.nn I
 rename_i h;unfold rh at h ⊢;split at h
 ·rename_i h1
  rw[aM h1];split at h
  ·rename_i g
   rw[aM g];exact NK I f (.inl rfl) i h e
  rename_i g;rw[aC g];exact NK I f j i h e
 rename_i h1;exact(UM I f (NJ h1) e).elim
end
end
section
open Go.Sl Go
attribute [local irreducible] vc opsW opsD opV opW PureV ReadV Thn Blk

end
section
open Go.Sl
section
variable {t:aa}{D less:J}
end
end
section
open Go.Sl Go
attribute [local irreducible] vc opsW opsD opV opW PureV ReadV Thn Blk
def ET (w0:World)(f:Nat)(cs:List Value)(P:Int->Prop)(xs:J):Prop:=∀ (w:World) (g:List HP),Z w0 w g->∀ x∈xs,Calls ai f ([Value.int .i64 x]++cs).toArray w fun e w'=>(∃ r,e=.returned (.bool r)/\(r=true↔P x))/\Z w w' []
def UN {xs:J}{f:Nat}[ao ai f](n:RS W w0 a xs)(o:ET w0 f cs P xs) :
  Calls ai 71 #[a,.func (.func f) #[] cs.toArray] w0 fun e w'=>(∃ r:Int,e=.returned (E r)/\(0<=r↔∃ x∈xs,P x))/\Z w0 w' []:=by
 have u:=n.bU;have Y:=Z.start w0;refine bA an Tryz.func71 ?_;refine O ?_;refine cP [4,5,8,18] (G:=Nat) (fun k=>[(8,E k)]) (fun k w=>k<=xs.length/\(∀ i,i<k->¬P (xs.getD i W.dflt))/\Z w0 w []) (fun k=>xs.length-k) 0 (fun _=>rfl) ⟨rfl,az⟩ ⟨bu _,fun i l=>absurd l (dr _),Y⟩ ?_;clear Y;rintro z k w ⟨hk,g,Y⟩;refine aB ?_ ?_<;>intro h1
 ·have j:k<xs.length:=U
  refine O ?_;refine wr (cs:=cs) rfl rfl (o _ _ Y _ (cH W.dflt j)) ?_;rintro _ w' ⟨⟨r,rfl,m⟩,al⟩;refine aA ?_;clear al Y;intro Y;cases r
  ·have y:¬P (xs.getD k W.dflt):=fun h=>by cases m.2 h
   refine O ?_;refine⟨k+1,⟨rfl,az⟩,aU,⟨U,fun i l=>?_,Y⟩,U⟩;by_cases h:i=k
   ·subst h;exact y
   exact g i U
  refine O ?_;exact bf (v:=E k) rfl rfl ⟨⟨k,rfl,⟨fun _=>⟨_,cH W.dflt j,m.1 rfl⟩,fun _=>U⟩⟩,Y⟩
 refine O ?_;refine bf (v:=E (-1)) rfl rfl ⟨⟨-1,rfl,⟨fun h=>U,?_⟩⟩,Y⟩;rintro⟨x,hx,he⟩;obtain⟨i,l,rfl⟩:=A0.1 hx;exact absurd (by rw[am l];exact he) (g i U)
def NM {xs:J}{f:Nat}[ao ai f](g:RS W w0 a xs)(h:ET w0 f cs P xs) :
  Calls ai 44 #[a,.func (.func f) #[] cs.toArray] w0 fun e w'=>(∃ r,e=.returned (.bool r)/\(r=true↔∃ x∈xs,P x))/\Z w0 w' []:=by
 have Y:=Z.start w0;refine bA an Tryz.func44 ?_;refine O ?_;refine aL rfl (UN g h) ?_;rintro _ w' ⟨⟨r,rfl,i⟩,al⟩;refine aA ?_;clear al Y;intro Y;refine O ?_;exact bf (v:=.bool (decide (0<=r))) rfl rfl ⟨⟨_,rfl,by rw[gQ];exact i⟩,Y⟩
def I3 {t:aa}{k:Nat}(h:k<t.M.length):jX t (k+1)=min (jX t k) (t.M.getD k bj).aN:=by
 unfold jX;rw[eC bj h,ti];rfl
def NN {w:World}{t:aa}{gv:Value}(h:RS aq w gv t.aH):fB w (.iface 89 (.agg #[gv,E (gj t)])) t (bP t) :=
 ⟨_,_,_,_,rfl,Dl _,inferInstance,fun _ _ _ _ f e _=>UO (h.at f) e⟩
def FU {t:aa}(x:bn w0 a b c d vs t)(I:aG t) :
  Calls ai 24 #[.agg #[a,b,c,d]] w0 fun e w'=>∃ p,e=.returned (.tuple #[.pointer (some p),.nilIface])/\Z w0 w' [aZ fun w=>bK w p t (bP t)]:=by
 have i:=x;obtain⟨N,Q,z,n⟩:=x;have A:=n.rs;have B:=n.len;have F:=sd I.aH;have K:=I.vars;have L:=I.M;have Y:=Z.start w0;refine bA an Tryz.func24 ?_;refine eE ?_;intro o w Y;refine dQ [4,4,6,6,10,18] (G:=Nat) (H:=Int) (fun k m=>[(10,E k),(4,E m)]) (fun k m w=>k<=t.M.length/\m=jX t k/\Z w0 w [ak o 26 [a,b,c,d]]) (fun k _=>t.M.length-k) 0 bH (fun _ _=>rfl) ⟨rfl,rfl,az⟩ ⟨bu _,rfl,Y⟩ ?_;clear Y;rintro R k m w ⟨hk,hm,Y⟩;refine aB ?_ ?_<;>intro h1
 ·have f:k<t.M.length:=U
  have j:=n.dJ k f;have r:=j.one;have l:=j.aN;refine eE ?_;intro p w Y;exact⟨k+1,_,⟨rfl,rfl,az⟩,aU,⟨U,by rw[I3 f,hm,<-l];split<;>omega,Y.aY⟩,U⟩
 have r:k=t.M.length:=U;subst r;have u:m=gj t:=hm;subst u;refine O ?_;refine sh [2,3,19,30] (G:=Addr) (fun g=>[(2,.pointer (some g)),(3,.nilIface)]) (fun g w=>Z w0 w [aZ fun w=>bK w g t (bP t)]) (fun _=>rfl) ?_ ?_
 ·refine wu (.s [1,4,0,2,7] (.c 3 [0,7] (.d 5 [0,7] (.s [6] (.c 8 [0] (.s [9,10,11,12,13] (.jE [])))) (.d 8 [0] (.c 5 [0,7] (.s [6,9,10,11,12,13] (.jE []))) (.stop))))) Y kr kr ?_;clear Y;intro w Y
  refine O ?_;refine aL rfl (A4 (z.at Y) U) ?_;rintro _ w' ⟨gv,rfl,al⟩;refine aI ?_;clear al Y;intro Y;have y:=(bk (s:=gv) Y).one;refine O ?_;refine jq ?_ (jq ?_ pZ)
  ·refine O ?_
   refine zH (v1:=gv) (v2:=E (gj t)) rfl rfl rfl (by simp only[eD,eN,y];rfl) ?_;refine O ?_;refine O ?_;refine aL rfl (tC (i.at Y)) ?_;rintro _ w' ⟨rfl,al⟩;refine aA ?_;clear al Y;intro Y;rw[fK ((oz t).2 I)];refine O ?_;refine aL rfl (xO (h:=.iface 89 (.agg #[gv,E (gj t)])) (H:=bP t) (i.at Y) I ⟨_,_,rfl⟩) ?_;rintro _ w' ⟨f,rfl,al⟩;refine aI ?_;clear al Y;intro Y;refine O ?_;have j:Z w0 w' [aZ fun w=>fB w (.iface 89 (.agg #[gv,E (gj t)])) t (bP t)->bK w f t (bP t),X aq 63 gv t.aH,ak o 26 [a,b,c,d]]:=Y;have l:=Z.rd (Δ:=[aZ fun w=>fB w (.iface 89 (.agg #[gv,E (gj t)])) t (bP t)->bK w f t (bP t),X aq 63 gv t.aH]) (φ:=fun w=>bK w f t (bP t)) (fun _ w h=>(h.ct 0 rfl) (NN (h.rs 1 rfl))) j;exact⟨f,⟨rfl,rfl,az⟩,aU,l.aY⟩
  refine O ?_;refine aL rfl (tC (i.at Y)) ?_;rintro _ w' ⟨rfl,al⟩;refine aA ?_;clear al Y;intro Y;rw[fK ((oz t).2 I)];refine O ?_;refine O ?_;refine zH (v1:=gv) (v2:=E (gj t)) rfl rfl rfl (by simp only[eD,eN,y];rfl) ?_;refine O ?_;refine aL rfl (xO (h:=.iface 89 (.agg #[gv,E (gj t)])) (H:=bP t) (i.at Y) I ⟨_,_,rfl⟩) ?_;rintro _ w' ⟨f,rfl,al⟩;refine aI ?_;clear al Y;intro Y;refine O ?_;have j:Z w0 w' [aZ fun w=>fB w (.iface 89 (.agg #[gv,E (gj t)])) t (bP t)->bK w f t (bP t),X aq 63 gv t.aH,ak o 26 [a,b,c,d]]:=Y;have l:=Z.rd (Δ:=[aZ fun w=>fB w (.iface 89 (.agg #[gv,E (gj t)])) t (bP t)->bK w f t (bP t),X aq 63 gv t.aH]) (φ:=fun w=>bK w f t (bP t)) (fun _ w h=>(h.ct 0 rfl) (NN (h.rs 1 rfl))) j;exact⟨f,⟨rfl,rfl,az⟩,aU,l.aY⟩
 clear Y;rintro j f w Y;refine O ?_;exact cR (v:=.pointer (some f)) (v':=.nilIface) rfl rfl rfl ⟨f,rfl,Y⟩
open Classical in
noncomputable def ri (t:aa)(T:J):Int:=if bY t.vars≠T.length then 11 else if ∃ x∈T,x<0\/bH<x then 1 else 0
def UP {x:Int} :
  Calls ai 45 #[E x] w0 fun e w'=>(∃ r,e=.returned (.bool r)/\(r=true↔x<0\/bH<x))/\Z w0 w' []:=by
 have Y:=Z.start w0;refine bA an Tryz.func45 ?_;refine O ?_;exact bf (v:=.bool (decide (x<0) || decide (bH<x))) rfl rfl ⟨⟨_,rfl,by rw[qa,gQ,gQ]⟩,Y⟩
def UQ {sv:Value}{t:aa}{s:J}(i:bn w0 a b c d vs t)(I:aG t)(j:RS W w0 tv T)(u:bY t.vars=T.length)(l:T.length<=65536)(m:RS W w0 sv s)(bL:ab t.vars s) :
  Calls ai 257 #[.agg #[a,b,c,d,tv],sv] w0 fun e w'=>e=.returned (E (lP t T s))/\Z w0 w' []:=by
 have Y:=Z.start w0;refine bA an Tryz.func257 ?_;refine eE ?_;intro p w Y;have g:dL w p [a,b,c,d,tv]:=Y.gn 0 rfl;have o:=Cd bL;have r:=j.bU;have h:kp t=0:=by rw[kp,aC (by rw[(oz t).2 I];decide),aC U]
 have f:lD t s=0:=by rw[lD,aC (by rw[h];decide),aM bL]
 refine qX rfl (ym (k:=0) (n:=4) (vs:=[a,b,c,d]) rfl g rfl rfl) ?_;refine O ?_;refine aL rfl (UR (i.at Y) (m.at Y)) ?_;rintro _ w' ⟨rfl,al⟩;refine aA ?_;clear al Y;intro Y;rw[fK f,aM f];refine O ?_;exact bf (v:=E (lP t T s)) rfl (by rw[US bL];rfl) ⟨rfl,Y.aY⟩
def UT {w:World}{t:aa}(h:bn w a b c d vs t)(I:aG t)(i:RS W w tv T)(j:bY t.vars=T.length)(e:T.length<=65536):fB w (.iface 86 (.agg #[a,b,c,d,tv])) t (lP t T) :=
 ⟨_,_,_,_,rfl,Dl _,inferInstance,fun _ _ _ _ g f bL=>UQ (h.at g) I (i.at g) j e f bL⟩
def UU {t:aa}(A:bn w0 a b c d vs t)(I:aG t)(n:RS W w0 tv T)(B:bY t.vars<=65536) :
  Calls ai 23 #[.agg #[a,b,c,d],tv] w0 fun e w' =>
   (ri t T≠0/\e=.returned (.tuple #[.pointer none,bI (ri t T)])/\Z w0 w' []) \/
   (ri t T=0/\∃ p,e=.returned (.tuple #[.pointer (some p),.nilIface])/\Z w0 w' [aZ fun w=>bK w p t (lP t T)]):=by
 have j:=A;have F:=n.bU;have Y:=Z.start w0;refine bA an Tryz.func23 ?_;refine eE ?_;intro G w Y;refine aL rfl (tC (j.at Y)) ?_;rintro _ w' ⟨rfl,al⟩;refine aA ?_;clear al Y;intro Y;rw[fK ((oz t).2 I)];refine O ?_;refine aL rfl (NO (j.at Y)) ?_;rintro _ w' ⟨rfl,al⟩;refine aA ?_;clear al Y;intro Y;rw[show kR t=bY t.vars by rw[kR,aM ((oz t).2 I),mR,aC U]];refine aB ?_ ?_<;>intro L
 ·omega
 refine aB ?_ ?_<;>intro h1
 ·have i:ri t T=11:=by unfold ri;rw[aM h1]
  refine O ?_;exact cR (v:=.pointer none) (v':=.iface 57 (E 11)) rfl rfl rfl (.inl ⟨by rw[i];decide,by rw[i,cS dc],Y.aY⟩)
 have K:bY t.vars=T.length:=U;refine O ?_;refine aL rfl (NM (cs:=[]) (f:=45) (P:=fun x=>x<0\/bH<x) (n.at Y) (fun w N _ x _=>UP)) ?_;rintro _ w' ⟨⟨r,rfl,z⟩,al⟩;refine aA ?_;clear al Y;intro Y;cases r;rotate_left
 ·have i:ri t T=1:=by unfold ri;rw[aC U,aM (z.1 rfl)]
  refine O ?_;exact cR (v:=.pointer none) (v':=.iface 57 (E 1)) rfl rfl rfl (.inl ⟨by rw[i];decide,by rw[i,cS dc],Y.aY⟩)
 have i:ri t T=0:=by unfold ri;rw[aC U,aC (fun h=>by cases z.2 h)]
 refine O ?_;refine fz (pl [0,1,2] (.cI 0::pl [3,4] (.cI 0::pl [5] (.cI 0::pl [6,7,8,9,10,11] [])))) Y kr ?_;clear Y;intro w Y;refine O ?_;refine aL rfl (Dm (j.at Y) I) ?_;rintro _ w' ⟨a2,k,c2,d2,l,rfl,al⟩;refine aI ?_;clear al Y;intro Y;refine O ?_;refine aL rfl (ns (n.at Y) U) ?_;rintro _ w' ⟨g,rfl,al⟩;refine aI ?_;clear al Y;intro Y;have o:=(bk (s:=g) Y).et;refine O ?_;refine rW (vs:=[(0,.agg #[a2,k,c2,d2]),(1,g)]) (ls:=[(0,[a2,k,c2,d2]),(1,[g])]) rfl (by show [(0,_),(1,g.cells.toList)]=_;rw[o];rfl) rfl ?_;refine O ?_;refine aL rfl (xO (h:=.iface 86 (.agg #[a2,k,c2,d2,g])) (H:=lP t T) (j.at Y) I ⟨_,_,rfl⟩) ?_;rintro _ w' ⟨m,rfl,al⟩;refine aI ?_;clear al Y;intro Y;have u:Z w0 w' [aZ fun w=>fB w (.iface 86 (.agg #[a2,k,c2,d2,g])) t (lP t T)->bK w m t (lP t T),X W 3 g T,aZ fun w=>bn w a2 k c2 d2 l t,ak G 26 [a,b,c,d]]:=Y;have y:=Z.rd (Δ:=[aZ fun w=>fB w (.iface 86 (.agg #[a2,k,c2,d2,g])) t (lP t T)->bK w m t (lP t T),X W 3 g T,aZ fun w=>bn w a2 k c2 d2 l t]) (φ:=fun w=>bK w m t (lP t T)) (fun _ w h=>(h.ct 0 rfl) (UT (h.ct 2 rfl) I (h.rs 1 rfl) K U)) u;refine O ?_;exact cR (v:=.pointer (some m)) (v':=.nilIface) rfl rfl rfl (.inr ⟨i,m,rfl,y.aY⟩)
end
end Go.Proofs.YtmapkjoefdgjfaaGreatDoor
