/- Several texts. -/
import Derived.Test.YtmapkjoefdgjfaaGreatDoorMW14D
set_option linter.unusedSimpArgs false
set_option linter.unusedVariables false
set_option linter.defProp false
set_option maxRecDepth 8000
set_option maxHeartbeats 16000000
open List Nat
namespace Go.Proofs.YtmapkjoefdgjfaaGreatDoor
open Go.Sl
variable {C:List J}{q:J}{d:Int}{w0:World}{a:Value}{cs:List Value}{P:Int->Prop}
section
open Go.Sl
def w6 (a:Int):(a:Rat) / ((1:Int):Rat)=(a:Rat):=by
 have:((1:Int):Rat)=1:=rfl;rw[this];grind
def Uk {f:cZ}(h:ed f):(0<=cm f->0<=f.num)/\cm f<=((1099511627776:Int):Rat):=by
 obtain⟨h1,k,l,m,_⟩:=h;constructor
 ·intro hv
  have e:=Dc (a:=f.num) (b:=f.den) (c:=0) (d:=1) U U;rw[w6]at e;have i:¬f.num*1<0*f.den:=fun g=>by
   have j:=e.1 g;have n:cm f<0:=j;exact absurd hv (by grind)
  omega
 have e:=Dc (a:=1099511627776) (b:=1) (c:=f.num) (d:=f.den) U U;rw[w6]at e;have i:¬(1099511627776:Int)*f.den<f.num*1:=U;have j:¬((1099511627776:Int):Rat)<cm f:=fun g=>i (e.2 g)
 grind
section
variable {t:aa}{s:J}
def Nk {g many:J}:∀ {l:J}{i:Nat}{dm f:cZ},(∀ op∈l,0<=g.getD op.toNat O.dflt/\1<=many.getD op.toNat O.dflt)->jP g many i dm l=(0,f)->(i≠0->ed dm/\0<=cm dm)->(l≠[]\/i≠0) ->
  ed f/\0<=cm f/\(i≠0->cm f<=cm dm)/\∀ op∈l,cm f<=((g.getD op.toNat O.dflt:Int):Rat) / ((many.getD op.toNat O.dflt:Int):Rat)
 | [],i,dm,f,_,h,v,x=>by
  have e:f=dm:=by unfold jP at h;exact(qq Prod.snd h).symm
  subst e;have j:i≠0:=x.resolve_left fun h=>h rfl
  exact⟨(v j).1,(v j).2,fun _=>zx,fun op n=>absurd n fM⟩
 | op::l,i,dm,f,r,h,v,x=>by
  obtain⟨N,z⟩:=À (me (g.getD op.toNat O.dflt) (many.getD op.toNat O.dflt));unfold jP at h;rw[<-z]at h;split at h;rotate_left
  ·rename_i y
   exact absurd (qq Prod.fst h) y
  rename_i y;obtain⟨H,K⟩:=r op gA;obtain⟨v1,v2⟩:=Nl (num:=g.getD op.toNat O.dflt) (den:=many.getD op.toNat O.dflt) (f:=N.2) U (by rw[<-z,<-y]);have u:0<=cm N.2:=by
   have o:=Dc (a:=g.getD op.toNat O.dflt) (b:=many.getD op.toNat O.dflt) (c:=0) (d:=1) U U;rw[w6]at o;have k:¬g.getD op.toNat O.dflt*1<0*many.getD op.toNat O.dflt:=U;have m:¬cm N.2<0:=fun x=>k (o.2 (by rw[<-v1];exact x))
   grind
  obtain⟨L,A⟩:∃ L,L=if i=0\/lQ N.2 dm<0 then N.2 else dm:=⟨_,rfl⟩
  rw[<-A]at h;have k:ed L/\0<=cm L/\(i≠0->cm L<=cm dm)/\cm L<=cm N.2:=by
   rw[A];by_cases j:i=0
   ·rw[aP (.inl j)];exact⟨v2,u,fun h=>absurd j h,zx⟩
   obtain⟨B,F⟩:=v j;have o:=(Ul v2 B).1;by_cases m:lQ N.2 dm<0
   ·rw[aP (.inr m)]
    have:=o.1 m;exact⟨v2,u,fun _=>by grind,zx⟩
   rw[aH (fun h=>h.elim j m)];have:¬cm N.2<cm dm:=fun h=>m (o.2 h);exact⟨B,F,fun _=>zx,by grind⟩
  obtain⟨B,F,m,G⟩:=Nk (fun o n=>r o (iR _ n)) h (fun _=>⟨k.1,k.2.1⟩) (.inr (succ_ne_zero i));have m:=m (succ_ne_zero i);refine⟨B,F,fun j=>?_,fun o n=>?_⟩
  ·have:=k.2.2.1 j;grind
  rcases dZ.1 n with rfl|n
  ·rw[<-v1];have:=k.2.2.2;grind
  exact G o n
def Nn {b many:J}:∀ {C:List J}{out l:List cZ},nJ b many out C=(0,l)->∃ l2,l=out++l2/\l2.length=C.length/\∀ i,i<C.length->jP b many 0 dF (C.getD i [])=(0,l2.getD i dF)
 | [],out,l,h=>by
  unfold nJ at h
  exact⟨[],by rw[fI];exact(qq Prod.snd h).symm,rfl,fun i e=>absurd e (dx _)⟩
 | c::C,out,l,h=>by
  unfold nJ at h;split at h
  ·rename_i f
   obtain⟨l2,h1,g,j⟩:=Nn h;refine⟨(jP b many 0 dF c).2::l2,by rw[h1];simp,by simp[g],fun i e=>?_⟩
   cases i with
   | zero=>show jP b many 0 dF c=(0,(jP b many 0 dF c).2);rw[<-f]
   | succ i=>exact j i (by simpa using e)
  rename_i f;exact absurd (qq Prod.fst h) f
def Um {op i:Nat}(hi:i<C.length)(h:(op:Int)∈C.getD i []):1<=fB C op:=by
 unfold fB;exact IF.2 ⟨_,cD [] hi,by simpa using h⟩
def No {n:Nat}{op:Nat}(h:op<n):(fS n C).getD op O.dflt=((fB C op:Nat):Int):=by
 simp[fS,List.getD,h]
def Uo (I:aC t){l:List cZ}(k:mO (am t).length C=0)(h:nJ (am t) (fS (am t).length C) [] C=(0,l)):kH t C (l.map cm):=by
 obtain⟨o,h1,f,m⟩:=Nn h;rw[kq]at h1;subst h1;obtain⟨_,g⟩:=IG k;have key:∀ i,i<C.length->ed (l.getD i dF)/\0<=cm (l.getD i dF)/\∀ op∈C.getD i [],cm (l.getD i dF)<=(((am t).getD op.toNat O.dflt:Int):Rat) / (((fS (am t).length C).getD op.toNat O.dflt:Int):Rat):=fun i b=>by
  obtain⟨c1,c2⟩:=g _ (cD [] b)
  obtain⟨j,a2,_,a4⟩:=Nk (fun op c=>by
   have n:=Up c2 op c;have e:op.toNat<(am t).length:=U;refine⟨(zy I _ (cD O.dflt e)).1,?_⟩;rw[No e];have:=Um (op:=op.toNat) b (by rw[fZ n.1];exact c)
   omega) (m i b) (fun h=>absurd rfl h) (.inl c1)
  exact⟨j,a2,a4⟩
 have e:∀ i,i<C.length->(l.map cm).getD i 0=cm (l.getD i dF):=fun i b=>by
  rw[al (by rw[iW];omega),mL,<-al (d:=dF) U]
 refine Uq I (by rw[iW,f]) (fun x hx=>?_) (fun i b op c hm=>?_)
 ·obtain⟨i,b,rfl⟩:=fF hx
  rw[iW,f]at b;rw[<-al (d:=0) (by rw[iW,f];exact b),e i b];exact(key i b).2.1
 rw[e i b];have j:=(key i b).2.2 _ hm;rw[gY,No (by rw[tB];exact c),tC c]at j;exact j
def tS (t:aa):Prop:=∀ {C:List J}{l:List cZ},EE (EF C) (EG (uO (am t) C)) (EH (uO (am t) C))=(0,l)->kH t C (l.map cm)
def Ur (I:aC t){kind:Int}(f:kind=1\/kind=2\/tS t)(h:(gi kind (am t) C).1=0):kH t C ((gi kind (am t) C).2.map cm):=by
 unfold gi at h ⊢;by_cases b:mO (am t).length C=0;rotate_left
 ·rw[aH b]at h;exact absurd h b
 rw[aP b]at h ⊢;by_cases h1:kind=1
 ·rw[aP h1]
  have e:((jt (am t) C).map yd).map cm=(jt (am t) C).map fun x=>((x:Int):Rat):=by
   rw[zz];exact xK fun x _=>Us x
  show kH t C (((jt (am t) C).map yd).map cm);rw[e];exact Ut I C
 rw[aH h1]at h ⊢;by_cases c:kind=2
 ·rw[aP c]at h ⊢
  exact Uo I b (by rw[<-h])
 rw[aH c]at h ⊢;exact((f.resolve_left h1).resolve_left c) (by rw[<-h])
def Np (I:aC t){kind:Int}(g:kind=1\/kind=2\/tS t)(h:(te kind (am t) C).1=0):∃ (l:List cZ) (f:cZ),kH t C (l.map cm)/\ed f/\cm f=dw (fun i=>(l.map cm).getD i 0) C.length/\(te kind (am t) C).2=lD f:=by
 unfold te at h ⊢;by_cases h1:(gi kind (am t) C).1=0;rotate_left
 ·rw[aH h1]at h;exact absurd h h1
 rw[aP h1]at h ⊢;have c:=Ur I g h1;generalize (gi kind (am t) C).2=l at h c ⊢;unfold vE at h ⊢;by_cases b:(mf ⟨0,1⟩ l).1=0;rotate_left
 ·rw[aH b]at h;exact absurd h b
 rw[aP b];obtain⟨g1,g2⟩:=Nq (l:=l) (s:=⟨0,1⟩) (f:=(mf ⟨0,1⟩ l).2) (Prod.ext b rfl) Uu;refine⟨l,_,c,g1,?_,rfl⟩;have e:=c.len;rw[iW]at e;have j:cm ⟨0,1⟩=0:=Uv;rw[g2,j,e];have k:dw (fun i=>cm (l.getD i ⟨0,1⟩)) C.length=dw (fun i=>(l.map cm).getD i 0) C.length:=AT fun i m=>by
  rw[al U,al (l:=l.map cm) (by rw[iW];omega),mL]
 rw[k];grind
def Nr (I:aC t){kind:Int}(j:kind=1\/kind=2\/tS t)(h:(te kind (am t) C).1=0):0<=(te kind (am t) C).2/\(te kind (am t) C).2<=bD:=by
 obtain⟨l,f,c,g,hv,e⟩:=Np I j h;rw[e];obtain⟨v1,v2⟩:=Uk g;have k:=Ns g v2;refine⟨Uw (v1 ?_),rO k dc⟩;rw[hv];refine Nt fun i m=>?_;have b:i<(l.map cm).length:=by rw[c.len];exact m
 rw[al b];exact c.nn _ (wq b)
def IH:∀ {l:List bo}{out:List J}{c:J},c∈fC t s l out->c∈out\/∃ f∈l,c=q9 t s f
 | [],out,c,h=>by unfold fC at h;exact .inl h
 | f::l,out,c,h=>by
  unfold fC at h;split at h
  ·rcases IH h with h|⟨g,I,e⟩
   ·exact .inl h
   exact .inr ⟨g,iR _ I,e⟩
  rcases IH h with h|⟨g,I,e⟩
  ·rcases gK.1 h with h|h
   ·exact .inl h
   exact .inr ⟨f,gA,dp.1 h⟩
  exact .inr ⟨g,iR _ I,e⟩
def Nu {f:bo}(h:¬sB t s f):∃ g∈t.aG,¬r8 t s f g:=nl fun b=>h fun g I=>nl fun c=>b ⟨g,I,c⟩
open Classical in
def Ux (I:aC t)(b:ab t.vars s)(e:lu t s q d){c:J}(h:c∈fC t s (de t s) []):∃ op:Nat,(op:Int)∈q/\(op:Int)∈c:=by
 rcases IH h with h|⟨f,g,rfl⟩
 ·exact absurd h fM
 have h1:qU t s f=true:=(rP.1 g).2;unfold qU at h1;have h1:=vX h1;obtain⟨op,i,k,j,l,m,n⟩:=FF.y6 (f:=f) (Nu h1.2) I b e;refine⟨op,i,Dd.2 (iQ.2 ⟨⟨op,lE (t.Z.getD op bf) j,vj (t.Z.getD op bf) j⟩,rP.2 ⟨FG.2 ⟨op,j,k,l,rfl⟩,?_⟩,rfl⟩)⟩;unfold r9;exact dY ⟨m,n⟩
def Nv (I:aC t)(j:ab t.vars s){kind:Int}(k:kind=1\/kind=2\/tS t)(m:∀ c∈C,c∈fC t s (de t s) [])(h:(te kind (am t) C).1=0)(g:lu t s q d):(te kind (am t) C).2<=d:=by
 obtain⟨l,f,n,b,hv,e⟩:=Np I k h;rw[e];refine Ns b ?_;rw[hv];exact n.low g fun i o=>Ux I j g (m _ (cD [] o))
def Nw (I:aC t)(kind:Int)(e:kind=1\/kind=2\/tS t):0<=jQ t kind s/\jQ t kind s<=bD:=by
 have c:(0:Int)<=bD:=dc;unfold jQ;split;rotate_left
 ·exact⟨du _,c⟩
 rename_i h;unfold ra at h ⊢;split at h
 ·rename_i h1
  rw[aP h1];split at h
  ·rename_i b
   rw[aP b];exact Nr I (.inl rfl) h
  rename_i b;rw[aH b];exact Nr I e h
 rename_i h1;rw[aH h1];exact⟨c,du _⟩
def Uy (I:aC t)(e:ab t.vars s)(kind:Int)(i:kind=1\/kind=2\/tS t)(b:lu t s q d):jQ t kind s<=d:=by
 have g:∀ c∈(fC t s (de t s) []).take 24,c∈fC t s (de t s) []:=fun c j=>pU j;unfold jQ;split;rotate_left
 ·exact b.nn I
 rename_i h;unfold ra at h ⊢;split at h
 ·rename_i h1
  rw[aP h1];split at h
  ·rename_i f
   rw[aP f];exact Nv I e (.inl rfl) g h b
  rename_i f;rw[aH f];exact Nv I e i g h b
 rename_i h1;exact(Uz I e (Nu h1) b).elim
end
end
section
open Go.Sl Go
attribute [local irreducible] vc opsW opsD opV opW PureV ReadV Thn Blk

end
section
open Go.Sl
section
variable {t:aa}{D less:J}
end
end
section
open Go.Sl Go
attribute [local irreducible] vc opsW opsD opV opW PureV ReadV Thn Blk
def EI (w0:World)(f:Nat)(cs:List Value)(P:Int->Prop)(xs:J):Prop:=∀ (w:World) (b:List HP),M w0 w b->∀ x∈xs,Calls aj f ([Value.int .i64 x]++cs).toArray w fun e w'=>(∃ r,e=.returned (.bool r)/\(r=true↔P x))/\M w w' []
def UA {xs:J}{f:Nat}[ap aj f](l:RS O w0 a xs)(m:EI w0 f cs P xs) :
  Calls aj 71 #[a,.func (.func f) #[] cs.toArray] w0 fun e w'=>(∃ r:Int,e=.returned (E r)/\(0<=r↔∃ x∈xs,P x))/\M w0 w' []:=by
 have n:=l.bT;have Y:=M.start w0;refine bB ao Tryz.func71 ?_;refine W ?_;refine cN [4,5,8,18] (G:=Nat) (fun k=>[(8,E k)]) (fun k w=>k<=xs.length/\(∀ i,i<k->¬P (xs.getD i O.dflt))/\M w0 w []) (fun k=>xs.length-k) 0 (fun _=>rfl) ⟨rfl,au⟩ ⟨br _,fun i g=>absurd g (dx _),Y⟩ ?_;clear Y;rintro u k w ⟨hk,b,Y⟩;refine aA ?_ ?_<;>intro h1
 ·have c:k<xs.length:=U
  refine W ?_;refine wr (cs:=cs) rfl rfl (m _ _ Y _ (cD O.dflt c)) ?_;rintro _ w' ⟨⟨r,rfl,j⟩,an⟩;refine aI ?_;clear an Y;intro Y;cases r
  ·have o:¬P (xs.getD k O.dflt):=fun h=>by cases j.2 h
   refine W ?_;refine⟨k+1,⟨rfl,au⟩,aV,⟨U,fun i g=>?_,Y⟩,U⟩;by_cases h:i=k
   ·subst h;exact o
   exact b i U
  refine W ?_;exact bk (v:=E k) rfl rfl ⟨⟨k,rfl,⟨fun _=>⟨_,cD O.dflt c,j.1 rfl⟩,fun _=>U⟩⟩,Y⟩
 refine W ?_;refine bk (v:=E (-1)) rfl rfl ⟨⟨-1,rfl,⟨fun h=>U,?_⟩⟩,Y⟩;rintro⟨x,hx,he⟩;obtain⟨i,g,rfl⟩:=AU.1 hx;exact absurd (by rw[al g];exact he) (b i U)
def UB {xs:J}{f:Nat}[ap aj f](b:RS O w0 a xs)(c:EI w0 f cs P xs) :
  Calls aj 44 #[a,.func (.func f) #[] cs.toArray] w0 fun e w'=>(∃ r,e=.returned (.bool r)/\(r=true↔∃ x∈xs,P x))/\M w0 w' []:=by
 have Y:=M.start w0;refine bB ao Tryz.func44 ?_;refine W ?_;refine aU rfl (UA b c) ?_;rintro _ w' ⟨⟨r,rfl,g⟩,an⟩;refine aI ?_;clear an Y;intro Y;refine W ?_;exact bk (v:=.bool (decide (0<=r))) rfl rfl ⟨⟨_,rfl,by rw[gR];exact g⟩,Y⟩
def II {t:aa}{k:Nat}(h:k<t.Z.length):jV t (k+1)=min (jV t k) (t.Z.getD k bf).aO:=by
 unfold jV;rw[eD bf h,tf];rfl
def Nx {w:World}{t:aa}{gv:Value}(h:RS aq w gv t.aG):gb w (.iface 89 (.agg #[gv,E (gl t)])) t (bR t) :=
 ⟨_,_,_,_,rfl,FH _,inferInstance,fun _ _ _ _ c b _=>UC (h.at c) b⟩
def Ny {b c d:Value}{vs:List iX}{t:aa}(x:bz w0 a b c d vs t)(I:aC t) :
  Calls aj 24 #[.agg #[a,b,c,d]] w0 fun e w'=>∃ p,e=.returned (.tuple #[.pointer (some p),.nilIface])/\M w0 w' [bj fun w=>cy w p t (bR t)]:=by
 have i:=x;obtain⟨N,Q,z,n⟩:=x;have A:=n.rs;have B:=n.len;have F:=sa I.aG;have K:=I.vars;have L:=I.Z;have Y:=M.start w0;refine bB ao Tryz.func24 ?_;refine eB ?_;intro o w Y;refine dN [4,4,6,6,10,18] (G:=Nat) (H:=Int) (fun k m=>[(10,E k),(4,E m)]) (fun k m w=>k<=t.Z.length/\m=jV t k/\M w0 w [ak o 26 [a,b,c,d]]) (fun k _=>t.Z.length-k) 0 bD (fun _ _=>rfl) ⟨rfl,rfl,au⟩ ⟨br _,rfl,Y⟩ ?_;clear Y;rintro R k m w ⟨hk,hm,Y⟩;refine aA ?_ ?_<;>intro h1
 ·have f:k<t.Z.length:=U
  have j:=n.dK k f;have r:=j.one;have l:=j.aO;refine eB ?_;intro p w Y;exact⟨k+1,_,⟨rfl,rfl,au⟩,aV,⟨U,by rw[II f,hm,<-l];split<;>omega,Y.bb⟩,U⟩
 have r:k=t.Z.length:=U;subst r;have u:m=gl t:=hm;subst u;refine W ?_;refine th [2,3,19,30] (G:=Addr) (fun g=>[(2,.pointer (some g)),(3,.nilIface)]) (fun g w=>M w0 w [bj fun w=>cy w g t (bR t)]) (fun _=>rfl) ?_ ?_
 ·refine xL (.s [1,4,0,2,7] (.c 3 [0,7] (.d 5 [0,7] (.s [6] (.c 8 [0] (.s [9,10,11,12,13] (.j6 [])))) (.d 8 [0] (.c 5 [0,7] (.s [6,9,10,11,12,13] (.j6 []))) (.stop))))) Y kr kr ?_;clear Y;intro w Y
  refine W ?_;refine aU rfl (AV (z.at Y) U) ?_;rintro _ w' ⟨gv,rfl,an⟩;refine aL ?_;clear an Y;intro Y;have y:=(bm (s:=gv) Y).one;refine W ?_;refine jF ?_ (jF ?_ qt)
  ·refine W ?_
   refine zA (v1:=gv) (v2:=E (gl t)) rfl rfl rfl (by simp only[ew,eN,y];rfl) ?_;refine W ?_;refine W ?_;refine aU rfl (vY (i.at Y)) ?_;rintro _ w' ⟨rfl,an⟩;refine aI ?_;clear an Y;intro Y;rw[gy ((rQ t).2 I)];refine W ?_;refine aU rfl (yf (h:=.iface 89 (.agg #[gv,E (gl t)])) (H:=bR t) (i.at Y) I ⟨_,_,rfl⟩) ?_;rintro _ w' ⟨f,rfl,an⟩;refine aL ?_;clear an Y;intro Y;refine W ?_;have j:M w0 w' [bj fun w=>gb w (.iface 89 (.agg #[gv,E (gl t)])) t (bR t)->cy w f t (bR t),X aq 63 gv t.aG,ak o 26 [a,b,c,d]]:=Y;have l:=M.rd (Δ:=[bj fun w=>gb w (.iface 89 (.agg #[gv,E (gl t)])) t (bR t)->cy w f t (bR t),X aq 63 gv t.aG]) (φ:=fun w=>cy w f t (bR t)) (fun _ w h=>(h.cU 0 rfl) (Nx (h.rs 1 rfl))) j;exact⟨f,⟨rfl,rfl,au⟩,aV,l.bb⟩
  refine W ?_;refine aU rfl (vY (i.at Y)) ?_;rintro _ w' ⟨rfl,an⟩;refine aI ?_;clear an Y;intro Y;rw[gy ((rQ t).2 I)];refine W ?_;refine W ?_;refine zA (v1:=gv) (v2:=E (gl t)) rfl rfl rfl (by simp only[ew,eN,y];rfl) ?_;refine W ?_;refine aU rfl (yf (h:=.iface 89 (.agg #[gv,E (gl t)])) (H:=bR t) (i.at Y) I ⟨_,_,rfl⟩) ?_;rintro _ w' ⟨f,rfl,an⟩;refine aL ?_;clear an Y;intro Y;refine W ?_;have j:M w0 w' [bj fun w=>gb w (.iface 89 (.agg #[gv,E (gl t)])) t (bR t)->cy w f t (bR t),X aq 63 gv t.aG,ak o 26 [a,b,c,d]]:=Y;have l:=M.rd (Δ:=[bj fun w=>gb w (.iface 89 (.agg #[gv,E (gl t)])) t (bR t)->cy w f t (bR t),X aq 63 gv t.aG]) (φ:=fun w=>cy w f t (bR t)) (fun _ w h=>(h.cU 0 rfl) (Nx (h.rs 1 rfl))) j;exact⟨f,⟨rfl,rfl,au⟩,aV,l.bb⟩
 clear Y;rintro j f w Y;refine W ?_;exact cX (v:=.pointer (some f)) (v':=.nilIface) rfl rfl rfl ⟨f,rfl,Y⟩
end
end Go.Proofs.YtmapkjoefdgjfaaGreatDoor
