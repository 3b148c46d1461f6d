/- Several texts. -/
import Derived.Test.YtmapkjoefdgjfaaGreatDoorMW9H
set_option linter.unusedSimpArgs false
set_option linter.unusedVariables false
set_option linter.defProp false
set_option maxRecDepth 8000
set_option maxHeartbeats 16000000
open List Nat
namespace Go.Proofs.YtmapkjoefdgjfaaGreatDoor
open Go.Sl
variable {t:aa}{w0 w:World}{a b c d h:Value}{vs:List kq}{H:J->Int}{s cs L:J}{p:Addr}{i:Nat}
section
open Go.Sl Go
attribute [local irreducible] vc opsW opsD opV opW PureV ReadV Thn Blk
instance Hr:rn ak 89 "Value" 260 := ⟨kr⟩
def gW (w:World)(h:Value)(t:aa)(H:J->Int):Prop :=
 ∃ (T:Nat) (v u:Value) (f:Nat),h=.iface T v/\pd ak T v "Value" f u /\ au ak f /\ ∀ (g : World) (k : List HP) (j : Value) (s : J), Z w g k -> RS W g j s -> aj t.vars s ->
  Calls ak f #[u,j] g fun e l=>e=.returned (E (H s))/\Z g l []
def gW.at {Γ:List HP}(k:gW w0 h t H)(Y:Z w0 w Γ):gW w h t H:=by
 obtain⟨T,v,u,f,h1,e,g,j⟩:=k;exact⟨T,v,u,f,h1,e,g,fun l m n s o=>j l (m++Γ) n s (Y.call o)⟩
def cF (w:World)(p:Addr)(t:aa)(H:J->Int):Prop:=∃ a b c d h vs,eJ w p [a,b,c,d,h]/\bR w a b c d vs t/\gW w h t H
def cF.at {w0 w:World}{Γ:List HP}{p:Addr}{t:aa}{H:J->Int}(k:cF w0 p t H)(Y:Z w0 w Γ):cF w p t H:=by
 obtain⟨a,b,c,d,h,vs,h1,e,f⟩:=k;exact⟨a,b,c,d,h,vs,h1.at Y,e.at Y,f.at Y⟩
open Classical in
noncomputable def kS (t:aa)(H:J->Int)(s:J):Int:=if aj t.vars s then H s else bZ
def DX {sv:Value}(he:cF w0 p t H)(j:RS W w0 sv s) :
  Calls ak 12 #[.pointer (some p),sv] w0 fun e w'=>e=.returned (E (kS t H s))/\Z w0 w' []:=by
 obtain⟨a,b,c,d,h,vs,h1,l,m⟩:=he;have n:=l.vars;have Y:=Z.start w0;refine bI ar Tryz.func12 ?_;refine O ?_;refine aR rfl (zW (n.at Y) (j.at Y)) ?_;rintro _ w' ⟨⟨r,rfl,k⟩,aw⟩;refine aL ?_;clear aw Y;intro Y;cases r
 ·have g:kS t H s=bZ:=aM fun h=>(by cases k.2 h)
  refine O ?_;exact bo (v:=E 1125899906842624) rfl rfl ⟨by rw[g],Y⟩
 have bX:=k.1 rfl;have g:kS t H s=H s:=ba bX;obtain⟨T,v,u,f,rfl,m1,m2,m3⟩:=m.at Y;refine O ?_;refine ŷ m1 m2 rfl rfl (m3 _ [] sv s (Z.start _) (j.at Y) bX) ?_;rintro _ w' ⟨rfl,aw⟩;refine aL ?_;clear aw Y;intro Y;refine O ?_;exact bo (v:=E (H s)) rfl rfl ⟨by rw[g],Y⟩
def Zy {u:aa}(he:cF w0 p u H)(f:bR w0 a b c d vs t) :
  Calls ak 17 #[.pointer (some p),.agg #[a,b,c,d]] w0 fun e w'=>(∃ r,e=.returned (.bool r)/\(r=true↔u=t))/\Z w0 w' []:=by
 obtain⟨a2,g,c2,d2,h,us,h1,j,m⟩:=he;have Y:=Z.start w0;refine bI ar Tryz.func17 ?_;refine dj ?_;intro p w Y;refine gi (pl [0,1,2,3,4,5,6,7,8,9,10] []) Y kr ?_;clear Y;intro w Y;refine O ?_;refine r7 rfl (zC (k:=0) (n:=4) (vs:=[a2,g,c2,d2]) rfl (h1.at Y) rfl rfl) ?_;refine O ?_;refine aR rfl (Ub (j.at Y) (f.at Y)) ?_;rintro _ w' ⟨⟨r,rfl,l⟩,aw⟩;refine aL ?_;clear aw Y;intro Y;refine O ?_;exact bo (v:=.bool r) rfl rfl ⟨⟨r,rfl,l⟩,Y.bj⟩
def kX (t:aa)(k:Nat):Int:=(t.M.take k).foldl (fun m o=>min m o.aT) bZ
def gH (t:aa):Int:=kX t t.M.length
def cX (t:aa)(s:J):Int:=if cE s t.aF then 0 else gH t
def XC {gv sv:Value}{g:List bE}{n:Int}(I:RS aD w0 gv g)(j:RS W w0 sv s) :
  Calls ak 260 #[.agg #[gv,E n],sv] w0 fun e w'=>e=.returned (E (if cE s g then 0 else n))/\Z w0 w' []:=by
 have Y:=Z.start w0;refine bI ar Tryz.func260 ?_;refine ep ?_;intro p w Y;refine aR rfl (T0 (I.at Y) (j.at Y)) ?_;rintro _ w' ⟨⟨r,rfl,f⟩,aw⟩;refine aL ?_;clear aw Y;intro Y;cases r
 ·have k:¬cE s g:=fun h=>by have:=f.2 h;cases this
  rw[aM k];refine O ?_;exact bo (v:=E n) rfl rfl ⟨rfl,Y.bj⟩
 rw[ba (f.1 rfl)];refine O ?_;exact bo (v:=E 0) rfl rfl ⟨rfl,Y.bj⟩
def zT (o:bR w0 a b c d vs t)(I:aJ t)(l:∃ T v,h=.iface T v) :
  Calls ak 37 #[.agg #[a,b,c,d],h,.nilIface] w0 fun e w'=>∃ p,e=.returned (.tuple #[.pointer (some p),.nilIface])/\Z w0 w' [bA fun w=>gW w h t H->cF w p t H]:=by
 obtain⟨T,v,rfl⟩:=l;have Y:=Z.start w0;refine bI ar Tryz.func37 ?_;refine ep ?_;intro p w Y;refine aR rfl (H1 (o.at Y) I) ?_;rintro _ w' ⟨a2,g,c2,d2,j,rfl,aw⟩;refine aO ?_;clear aw Y;intro Y;have f:=Y.dQ 0 rfl;have q:=f.vars.fu;have r:=f.dt.fu;have u:=f.aF.fu;have x:=f.M.rs.fu;refine O ?_;refine mX (vs:=[(0,.agg #[a2,g,c2,d2]),(1,.iface T v)]) (ls:=[(0,[a2,g,c2,d2]),(1,[.iface T v])]) rfl rfl rfl ?_;refine zx (vs:=[a2,g,c2,d2,.iface T v]) rfl Y ?_;clear Y;intro k w Y;refine O ?_;have m:Z w0 w [bA fun w=>gW w (.iface T v) t H->cF w k t H]:=by
  have n:Z w0 w [am k 69 [a2,g,c2,d2,.iface T v],bA fun w=>bR w a2 g c2 d2 j t,am p 26 (Value.agg #[a,b,c,d]).cells.toList]:=Y;exact(Z.rd (Δ:=[am k 69 [a2,g,c2,d2,.iface T v],bA fun w=>bR w a2 g c2 d2 j t]) (φ:=fun w=>gW w (.iface T v) t H->cF w k t H) (fun _ w h l=>⟨a2,g,c2,d2,.iface T v,j,h.dA 0 rfl,h.dQ 1 rfl,l⟩) n).bj
 exact dw (v:=.pointer (some k)) (v':=.nilIface) rfl rfl rfl ⟨k,rfl,m⟩
open Classical in
noncomputable def oQ (t:aa)(M':Int)(s:J):Int:=(vz t M').getD (qH s (sX t M')).toNat W.dflt
def Ÿ {M':Int}(h:xt w p t (sX t M') (vz t M'))(f:BX t (sX t M') (vz t M')):gW w (.iface 111 (.pointer (some p))) t (oQ t M') :=
 ⟨_,_,_,_,rfl,Jj _,inferInstance,fun _ _ _ s Y e bX=>Ź (h.at Y) f.1 (f.2 s bX) e bX⟩
def ź {v:Value}{T:Nat} :
  Calls ak 37 #[.agg #[a,b,c,d],h,.iface T v] w0 fun e w'=>e=.returned (.tuple #[.pointer none,.iface T v])/\Z w0 w' []:=by
 have Y:=Z.start w0;refine bI ar Tryz.func37 ?_;refine ep ?_;intro p w Y;exact dw (v:=.pointer none) (v':=.iface T v) rfl rfl rfl ⟨rfl,iH Y⟩
def Á {M':Int}(m:bR w0 a b c d vs t)(I:aJ t)(r:nF w0) :
  Calls ak 32 #[.agg #[a,b,c,d],E M'] w0 fun e w'=>(fa t M'≠0/\e=.returned (.tuple #[.pointer none,bS (fa t M')])/\Z w0 w' [])\/(fa t M'=0/\∃ p,e=.returned (.tuple #[.pointer (some p),.nilIface])/\Z w0 w' [bA fun w=>cF w p t (oQ t M')]):=by
 have u:=I.vars;have Y:=Z.start w0;refine bI ar Tryz.func32 ?_;have x:=m.1;refine dj ?_;intro q w Y;have Y:Z w0 w [am q 26 [a,b,c,d]]:=Y;refine dP [6,7,13,20] (G:=Nat) (H:=Value) (fun k f=>[(13,E k),(6,f)]) (fun k f w=>k<=t.vars.length/\Z w0 w [X W 3 f (dI k),am q 26 [a,b,c,d]]) (fun k _=>t.vars.length-k) 0 (nS) (fun _ _=>rfl) ⟨rfl,rfl,az⟩ ⟨bC _,Y.nil⟩ ?_;clear Y;rintro _ k f w ⟨hk,Y⟩;refine aC ?_ ?_<;>intro g1
 ·have g:k<t.vars.length:=U
  have j:(dI k).length<=64:=by rw[DO];omega
  repeat (first|refine dS ?_|(refine gA ?_;clear Y;intro s w Y))
  rw[<-Ur]at Y;exact⟨k+1,s,⟨rfl,rfl,az⟩,aX,⟨U,Y.bj⟩,U⟩
 have g:k=t.vars.length:=U;subst g;refine O ?_;refine aR rfl (YL (M':=M') (r.at Y) I (m.at Y) (bB (s:=f) Y)) ?_;rintro _ w' j;rcases j with ⟨l,rfl,aw⟩|⟨l,y,pm,rfl,aw⟩
 ·refine aL ?_;clear aw Y;intro Y
  rw[c9 l];refine O ?_;refine aR rfl ź ?_;refine iw ?_;intro w' Y;exact dw (v:=.pointer none) (v':=.iface 57 (E (fa t M'))) rfl rfl rfl (.inl ⟨l,rfl,Y.bj⟩)
 refine aO ?_;clear aw Y;intro Y;refine O ?_;refine aR rfl (zT (h:=.iface 111 (.pointer (some pm))) (H:=oQ t M') (m.at Y) I ⟨_,_,rfl⟩) ?_;rintro _ w' ⟨n,rfl,aw⟩;refine aO ?_;clear aw Y;intro Y;refine O ?_;have o:=Z.rd (Δ:=[_,_]) (φ:=fun w=>cF w n t (oQ t M')) (fun _ w h=>(h.dQ 0 rfl) (Ÿ (h.dQ 1 rfl) y)) Y;exact dw (v:=.pointer (some n)) (v':=.nilIface) rfl rfl rfl (.inr ⟨l,n,rfl,o.bj⟩)
end
section
open Go.Sl
attribute [local irreducible] vc opsW opsD opV opW PureV ReadV Thn Blk
def lj (l:List J)(k:Int)(i:Nat):List J:=ka (l.take i) k
def rq (s:J)(x:Nat):List J:=(List.range x).map fun (x:Nat)=>s++[(x:Int)]
def Ż {l:List J}{k:Int}(hi:i<l.length):lj l k (i+1)=lj l k i++rq (l.getD i []) k.toNat:=by
 unfold lj ka rq;rw[eX [] hi];simp
def ż (l:List J)(k:Int):lj l k l.length=ka l k:=by unfold lj;rw[mK]
def Ž (s:J)(x:Nat):rq s (x+1)=rq s x++[s++[(x:Int)]]:=by simp[rq,lN]
def ž {vars:J}(hi:i<(aP vars).length):((aP vars).getD i []).length=vars.length:=(Jn.1 (cS [] hi)).1
def ſ {n k:Nat}{p:Int}(h:i<n)(f:((n:Int)*k)<=p):(i:Int)*k+k<=p:=by
 have h1:(i+1)*k<=n*k:=wm k h;rw[z6]at h1;have e:((i*k+k:Nat):Int)<=((n*k:Nat):Int):=by exact_mod_cast h1
 simp only[DC,D8]at e;omega
def LF {vars:J}(ha:RS W w0 a vars)(q:∀ x∈vars,1<=x)(hn:vars.length<=64)(hB:cZ vars<=65536) :
  Calls ak 11 #[a] w0 fun e w'=>∃ s ss,e=.returned s/\Z w0 w' [ai W 3 ss (aP vars),X aA 22 s ss]:=by
 have J':=ha.cn;have Y:=Z.start w0;refine bI ar Tryz.func11 ?_;refine O ?_;refine zU W Y ?_;clear Y;intro s w Y;refine kO ?_;intro s w Y;replace Y:=(Y.swap.pH (T:=W) (e:=3)).swap.jv;refine pu [3,3,5,6,8,9,14,40] (G:=Nat) (H:=Value) (I':=List Value) (fun k s _=>[(14,E k),(3,s)]) (fun k s ss w=>k<=vars.length/\Z w0 w [ai W 3 ss (aP (vars.take k)),X aA 22 s ss]) (fun k _ _=>vars.length-k) 0 _ _ (fun _ _ _=>rfl) ⟨rfl,rfl,az⟩ ⟨bC _,Y⟩ ?_;clear Y;rintro σ k s ss w ⟨hk,Y⟩;refine aC ?_ ?_<;>intro h1
 ·have j:k<vars.length:=U
  have l:∀ x∈vars.take k,1<=x:=fun x hx=>q x (rZ hx);have F:=q _ (cS W.dflt j);have K:aP (vars.take (k+1))=ka (aP (vars.take k)) (vars.getD k W.dflt):=by rw[eX W.dflt j,Nd]
  have N:((aP (vars.take k)).length:Int)*(vars.getD k W.dflt).toNat<=65536:=by
   have r:=Fx q (k+1);rw[eX W.dflt j,BH]at r;have P:=Bl l;rw[z8 l,jW U,jW U];omega
  have Q:((aP (vars.take k)).length:Int)<=65536:=by
   have r:=Fx q k;rw[z8 l];omega
  have hV:vars.getD k W.dflt<=65536:=by
   have r:=Fx q (k+1);rw[eX W.dflt j,BH]at r;have P:=Bl l;have f:1*vars.getD k W.dflt<=cZ (vars.take k)*vars.getD k W.dflt:=zF P U;omega
  obtain⟨V,u⟩:=À (vars.getD k W.dflt);obtain⟨L,y⟩:=À (aP (vars.take k));have z:∀ i,i<L.length->(L.getD i []).length<=64:=fun i hi=>by
   subst y;rw[ž hi,jC];omega
  have R:ss.length=(aP (vars.take k)).length:=Y.bU;rw[<-y]at K N Q Y R;rw[<-u]at K N hV F;refine O ?_;have D:=Y;have A:RS aA w s ss:=bB D;have S:=ha.at Y;obtain⟨w1,m⟩:=À w;rw[<-m]at D A S;replace Y:=Z.start w;rw[<-m]at Y;rw[<-u];refine pu [6,6,8,9,20,38] (G:=Nat) (H:=Value) (I':=List Value) (fun i s _=>[(20,E i),(6,s)]) (fun i B f w=>i<=L.length/\f.length=i*V.toNat/\Z w1 w [ai W 3 f (lj L V i),X aA 22 B f]) (fun i _ _=>L.length-i) 0 _ [] (fun _ _ _=>rfl) ⟨rfl,rfl,az⟩ ⟨bC _,sm,m ▸ Y.nil.pH⟩ ?_;clear Y m;rintro P' i B f w ⟨hi,g,Y⟩;refine aC ?_ ?_<;>intro r
  ·have n:i<L.length:=U
   have hr:=D.row n;have R':=z i n;have hmul:=ſ n N;have o:(f.length:Int)=(i:Int)*V.toNat:=by rw[g];simp
   refine O ?_;refine pu [6,6,9,9,25,37] (G:=Nat) (H:=Value) (I':=List Value) (fun x s _=>[(25,E x),(6,s)]) (fun x B f w=>x<=V.toNat/\f.length=i*V.toNat+x/\Z w1 w [ai W 3 f (lj L V i++rq (L.getD i []) x),X aA 22 B f]) (fun x _ _=>V.toNat-x) 0 B f (fun _ _ _=>rfl) ⟨rfl,rfl,az⟩ ⟨bC _,g,by simpa [rq] using Y⟩ ?_;clear Y g o;rintro T' x s2 C w ⟨hx,j',Y⟩;have V':(C.length:Int)=(i:Int)*V.toNat+x:=by rw[j'];simp
   refine aC ?_ ?_<;>intro P
   ·refine O ?_
    refine zU W Y ?_;clear Y;intro e1 w Y
    repeat (first|refine dS ?_|(refine gA ?_;clear Y;intro s w Y))
    replace Y:=Y.tail.tail.jv;rw[lQ,fk,<-Ž]at Y;exact⟨x+1,_,_,⟨rfl,rfl,az⟩,aX,⟨U,by simp;omega,Y⟩,U⟩
   have H':x=V.toNat:=U;subst H';rw[<-Ż n]at Y;refine O ?_;exact⟨i+1,_,C,⟨rfl,rfl,az⟩,aX,⟨U,by rw[z6];omega,Y⟩,U⟩
  have n:i=L.length:=U;subst n;rw[ż,<-K]at Y;refine O ?_;exact⟨k+1,_,f,⟨rfl,rfl,az⟩,aX,⟨U,(D.call Y).comm.tail.tail⟩,U⟩
 rw[io U]at Y;refine O ?_;exact bo (v:=s) rfl rfl ⟨s,ss,rfl,Y⟩
def Α (y:bR w0 a b c d vs t)(I:aJ t)(F:cZ t.vars<=65536) :
  Calls ak 13 #[.agg #[a,b,c,d]] w0 fun e w'=>∃ s,e=.returned s/\Z w0 w' [X aV 41 s (cO t)]:=by
 have m:=y;obtain⟨z,V,hc,A⟩:=y;have n:=A.rs;have K:=A.len;have N:=n.cn;have o:=I.M;have hlen:(aP t.vars).length<=65536:=by rw[z8 I.pos];omega
 have Y:=Z.start w0;refine bI ar Tryz.func13 ?_;refine ep ?_;intro B w Y;refine aR rfl (LF (z.at Y) I.pos I.vars F) ?_;rintro _ w' ⟨C,l,rfl,aw⟩;replace Y:=Y.wz aw;clear aw;have P:=Y.bU;refine⟨_,rfl,?_⟩;refine O ?_;refine dP [3,8,13,43] (G:=Nat) (H:=Value) (fun i s=>[(13,E i),(3,s)]) (fun i s w=>i<=(aP t.vars).length/\Z w0 w [X aV 41 s (k9 t i),ai W 3 l (aP t.vars),X aA 22 C l,am B 26 [a,b,c,d]]) (fun i _=>(aP t.vars).length-i) 0 _ (fun _ _=>rfl) ⟨rfl,rfl,az⟩ ⟨bC _,Y.nil⟩ ?_;clear Y;rintro σ i s w ⟨hi,Y⟩;refine aC ?_ ?_<;>intro h1
 ·have f:i<(aP t.vars).length:=U
  have g:=Fq I.pos f;have Q:=Us t i;have D:i*t.M.length<=65536*4096:=xc U o;refine O ?_;refine dP [3,3,6,8,21,42] (G:=Nat) (H:=Value) (fun j s=>[(21,E j),(3,s)]) (fun j s w=>j<=t.M.length/\Z w0 w [X aV 41 s (k9 t i++ko t ((aP t.vars).getD i []) i j),ai W 3 l (aP t.vars),X aA 22 C l,am B 26 [a,b,c,d]]) (fun j _=>t.M.length-j) 0 s (fun _ _=>rfl) ⟨rfl,rfl,az⟩ ⟨bC _,by rw[Β,gj];exact Y⟩ ?_;clear Y;rintro R j s1 w ⟨hj,Y⟩;refine aC ?_ ?_<;>intro h2
  ·have q:j<t.M.length:=U
   have S:=Ut t ((aP t.vars).getD i []) i j;refine O ?_;refine aR rfl (Ő (m.at Y) ((Y.bN 1 rfl).row f) I g.1) ?_;rintro _ w' ⟨r,T,rfl,u,aw⟩;refine aO ?_;clear aw Y;intro Y;rw[jU]at u Y
   cases r with
   | false =>
    refine O ?_;refine⟨j+1,s1,⟨rfl,rfl,az⟩,aX,⟨U,?_⟩,U⟩;rw[Nf,rr,aM (fun h=>by have:=u.2 ⟨U,U,h⟩;cases this),gj]
    exact Y.tail
   | true =>
    have k:=(u.1 rfl).2.2;have x:=sb I g.1 q;rw[ba rfl]at Y;refine O ?_;refine aR rfl (Œ (a:=a) (b:=T) (z.at Y) (bB Y) x I.pos U) ?_;rintro _ w' ⟨rfl,aw⟩;refine aL ?_;clear aw Y;intro Y;refine O ?_;refine jA aV (x1:=⟨i,j,dO t.vars (cD t ((aP t.vars).getD i []) j)⟩) rfl rfl rfl (fP rfl) (fg _) Y ?_;clear Y;intro s2 w Y;refine kO ?_;intro s w Y;refine⟨j+1,_,⟨rfl,rfl,az⟩,aX,⟨U,?_⟩,U⟩;rw[Nf,rr,ba k,<-fk];exact Y.tail.tail
  have k:j=t.M.length:=U;subst k;rw[<-Uu]at Y;refine O ?_;exact⟨i+1,_,⟨rfl,rfl,az⟩,aX,⟨U,Y⟩,U⟩
 have f:i=(aP t.vars).length:=U;subst f;refine O ?_;exact bo (v:=s) rfl rfl ⟨s,rfl,Y.only⟩
end
section
open Go.Sl Go
attribute [local irreducible] vc opsW opsD opV opW PureV ReadV Thn Blk
def j4 (t:aa)(i:Int):Prop:=cE ((aP t.vars).getD i.toNat []) t.aF
inductive ot (w:World) (t:aa) (kv:Value) (cs:J):Prop
 | own:kv=nS->cs=ao t->ot w t kv cs
 | new:(∃ p n k,kv=.slice (some p) n k)->RS W w kv cs->cs.length=t.M.length->(∀ x∈cs,0<=x/\x<=1099511627776)->ot w t kv cs
def ot.ok {kv:Value}(h:ot w t kv cs)(I:aJ t):cs.length=t.M.length/\∀ x∈cs,0<=x/\x<=1099511627776:=by
 rcases h with ⟨h1,e⟩|⟨h1,e,g,j⟩
 ·subst e
  refine⟨by simp[ao],fun x hx=>?_⟩;obtain⟨o,k,rfl⟩:=iG.1 hx;obtain⟨i,f,rfl⟩:=ga k;have:=I.op i f;rw[aq f]at this;have h1:=this.l9;have e:=this.pG;omega
 exact⟨g,j⟩
def B9 (I:aJ t)(h:cs.length=t.M.length/\∀ x∈cs,0<=x/\x<=1099511627776):pR (cO t) cs (aP t.vars).length:=by
 have key:∀ e∈cO t,(0<=e.br/\e.br<(aP t.vars).length)/\(0<=e.dst/\e.dst<(aP t.vars).length)/\0<=e.cU/\e.cU<cs.length:=by
  intro e he;obtain⟨i,op,g,j,k,rfl⟩:=Ng.1 he;have f:=sb I (Fq I.pos g).1 j;have h1:=zO f;have l:=(Gf I.pos f).1;exact⟨⟨by simp only;omega,by simp only;omega⟩,⟨h1.1,by simp only;omega⟩,by simp only;omega,by simp only;omega⟩
 exact⟨fun e he=>(key e he).1,fun e he=>(key e he).2.1,fun e he=>(key e he).2.2,h.2⟩
def Zu {kv:Value}(ht:bR w0 a b c d vs t)(hk:ot w0 t kv cs)(I:aJ t)(hB:cZ t.vars<=65536) :
  Calls ak 15 #[.agg #[a,b,c,d],kv] w0 fun e w'=>∃ s D,e=.returned s/\db (cO t) cs (j4 t) (aP t.vars).length D/\Z w0 w' [X W 3 s D]:=by
 have V:=ht;obtain⟨ha,hb,hc,hd⟩:=ht;have V':=hd.rs;have _a:=hd.len;have j':=I.M;have hlen:(aP t.vars).length<=65536:=by rw[z8 I.pos];omega
 have T:=B9 I (hk.ok I);have _b:=(hk.ok I).1;have _c:(cO t).length<=65536*4096:=rN (Us t _) (xc hlen j');have H':(replicate (aP t.vars).length (0:Int)).length=(aP t.vars).length:=mp;have Y:=Z.start w0;refine bI ar Tryz.func15 ?_;refine ep ?_;intro pt w Y;refine aR rfl (LF (ha.at Y) I.pos I.vars hB) ?_;rintro _ w' ⟨sv,B,rfl,aw⟩;replace Y:=Y.wz aw;clear aw;have J':=Y.bU;refine⟨_,rfl,?_⟩;refine kO ?_;intro s w Y;obtain⟨C,rfl⟩:=À s;rw[J',jU,<-Qa (j4 t)]at Y;have F:∀ k,(dM (j4 t) (aP t.vars).length k).length=(aP t.vars).length:=fun k=>Qb _ _ k;refine de [7,8,22,37] (G:=Nat) (fun k=>[(22,E k)]) (fun k w=>k<=(aP t.vars).length/\Z w0 w [X W 3 C (dM (j4 t) (aP t.vars).length k),ai W 3 B (aP t.vars),X aA 22 sv B,am pt 26 [a,b,c,d]]) (fun k=>(aP t.vars).length-k) 0 (fun _=>rfl) ⟨rfl,az⟩ ⟨bC _,Y⟩ ?_;clear Y;rintro σ k w ⟨_d,Y⟩;have q:=F k;refine aC ?_ ?_<;>intro h1
 ·have o:k<(aP t.vars).length:=U
  refine dD ?_;intro w Y;refine aR rfl (MZ (a:=c) (hc.at Y) ((Y.bN 1 rfl).row o)) ?_;rintro _ w' ⟨⟨r,rfl,g⟩,aw⟩;refine aL ?_;clear aw Y;intro Y;have f:j4 t (k:Int)↔cE ((aP t.vars).getD k []) t.aF:=by unfold j4;rw[jU]
  have j:((dM (j4 t) (aP t.vars).length k).set k 1125899906842624).length=(aP t.vars).length:=by rw[iU,q]
  cases r
  ·refine O ?_
   rw[Qd (G:=j4 t) (k:=k) (fun h=>by have:=g.2 (f.1 h);cases this)]at Y;exact⟨k+1,⟨rfl,az⟩,aX,⟨U,Y⟩,U⟩
  refine dD ?_;intro w Y;rw[Qc (f.2 (g.1 rfl))]at Y;exact⟨k+1,⟨rfl,az⟩,aX,⟨U,Y⟩,U⟩
 have P':k=(aP t.vars).length:=U;subst P';rw[Qe]at Y;clear q F H';refine O ?_;refine aR rfl (Α (V.at Y) I hB) ?_;rintro _ w' ⟨es,rfl,aw⟩;refine aO ?_;clear aw Y;intro Y;replace Y:=Y.swap;refine O ?_;refine dP [10,10,12,13,40,93] (G:=Bool) (H:=J) (fun f _=>[(10,.bool f)]) (fun f D w=>td (cO t) cs (j4 t) (aP t.vars).length D/\(f=false->∀ e∈cO t,xA cs D e)/\Z w0 w [X W 3 C D,X aV 41 es (cO t),ai W 3 B (aP t.vars),X aA 22 sv B,am pt 26 [a,b,c,d]]) (fun f D=>2*gO D+(bif f then 1 else 0)) true _ (fun _ _=>rfl) ⟨rfl,az⟩ ⟨Uv _ _ _ _,(fun h=>by cases h),Y⟩ ?_;clear Y;rintro _e f D w ⟨hD,K,Y⟩;cases f
 ·refine O ?_
  exact bo (v:=C) rfl rfl ⟨C,D,rfl,hD.cr T (K rfl),Y.only⟩
 clear K;refine O ?_;refine pu [10,10,12,13,43,93] (G:=Nat) (H:=Bool) (I':=J) (fun k f _=>[(43,E k),(10,.bool f)]) (fun k f g w=>k<=(cO t).length/\td (cO t) cs (j4 t) (aP t.vars).length g/\gO g<=gO D/\(f=true->gO g<gO D)/\(f=false->∀ i,i<k->xA cs g ((cO t).getD i aV.dflt))/\Z w0 w [X W 3 C g,X aV 41 es (cO t),ai W 3 B (aP t.vars),X aA 22 sv B,am pt 26 [a,b,c,d]]) (fun k _ _=>(cO t).length-k) 0 false D (fun _ _ _=>rfl) ⟨rfl,rfl,az⟩ ⟨bC _,hD,cP _,(fun h=>by cases h),fun _ i N=>absurd N (eo _),Y⟩ ?_;clear Y;rintro _f k f g w ⟨_g,j,P,x,y,Y⟩;refine aC ?_ ?_<;>intro h3
 ·have o:k<(cO t).length:=U
  obtain⟨e1,e2,e3,e4⟩:=T.getD o;have Q:=cS aV.dflt o;have _h:=j.len;have r1:=j.et ((cO t).getD k aV.dflt).dst.toNat U;rw[jW e2.1]at r1;simp only[dg,iS]at r1 e4;have u:((cO t).getD k aV.dflt).cU.toNat<t.M.length:=U;have R:=(hd.eI _ u).aT;refine ep ?_;intro p w Y;rcases hk with ⟨z,S⟩|⟨⟨pk,nk,ck,z⟩,S,_i,_j⟩
  ·have R':(aB cN vs ((cO t).getD k aV.dflt).cU.toNat).aT=cs.getD ((cO t).getD k aV.dflt).cU.toNat W.dflt:=by rw[R,S,tD u]
   refine fR rfl (Uw (a:=none) (n:=0) (c:=0) z) ?_;rw[R'];refine sU ?_ ?_<;>intro w Y A
   ·have l:=j.rf T Q A.1 A.2
    simp only[dg,iS]at l;refine dD ?_;intro w Y;exact⟨k+1,true,_,⟨rfl,rfl,az⟩,aX,⟨U,l.1,U,fun _=>U,(fun h=>by cases h),Y.tail⟩,U⟩
   refine O ?_;refine⟨k+1,f,g,⟨rfl,rfl,az⟩,aX,⟨U,j,P,x,fun m i N=>?_,Y.tail⟩,U⟩;by_cases e:i=k
   ·subst e
    intro T';have:bZ<=dg g ((cO t).getD i aV.dflt).dst\/dg g ((cO t).getD i aV.dflt).br<=dg g ((cO t).getD i aV.dflt).dst+iS cs ((cO t).getD i aV.dflt):=A;omega
   exact y m i U
  refine fR rfl (Uw (a:=some pk) (n:=nk) (c:=ck) z) ?_;refine sU ?_ ?_<;>intro w Y A
  ·have l:=j.rf T Q A.1 A.2
   simp only[dg,iS]at l;refine dD ?_;intro w Y;exact⟨k+1,true,_,⟨rfl,rfl,az⟩,aX,⟨U,l.1,U,fun _=>U,(fun h=>by cases h),Y.tail⟩,U⟩
  refine O ?_;refine⟨k+1,f,g,⟨rfl,rfl,az⟩,aX,⟨U,j,P,x,fun m i N=>?_,Y.tail⟩,U⟩;by_cases e:i=k
  ·subst e
   intro T';have:bZ<=dg g ((cO t).getD i aV.dflt).dst\/dg g ((cO t).getD i aV.dflt).br<=dg g ((cO t).getD i aV.dflt).dst+iS cs ((cO t).getD i aV.dflt):=A;omega
  exact y m i U
 refine O ?_;refine⟨f,g,⟨rfl,az⟩,aX,⟨j,fun m e he=>?_,Y⟩,?_⟩
 ·obtain⟨i,N,rfl⟩:=ga he
  have:=y m i U
  rwa[aq N]at this
 cases f
 ·simp only[cond_true,cond_false];omega
 have:=x rfl;simp only[cond_true];omega
end
section
open Go.Sl Go
def gg (t:aa)(L:J)(i:Int):Prop:=(eT t L (bG t.vars L).toNat).getD i.toNat ah.dflt=true
def Ε {i:Int}(e:0<=i)(h1:i<bG t.vars L):gg t L i↔wE t L i:=by
 unfold gg;rw[<-Nh,show (eT t L (bG t.vars L).toNat).getD i.toNat ah.dflt=nY t L (i.toNat:Int) from Ux U,jW e]
def G6 (h:cs.length=t.M.length/\∀ x∈cs,0<=x/\x<=1099511627776):pR (cm t L) cs (bG t.vars L).toNat:=by
 have key:∀ e∈cm t L,(0<=e.br/\e.br<(bG t.vars L).toNat)/\(0<=e.dst/\e.dst<(bG t.vars L).toNat)/\0<=e.cU/\e.cU<cs.length:=by
  intro e he;obtain⟨x,op,y,hx,f,g,j,rfl⟩:=EY.1 he;exact⟨⟨by grind,by grind⟩,⟨by grind,by grind⟩,by grind,by grind⟩
 exact⟨fun e he=>(key e he).1,fun e he=>(key e he).2.1,fun e he=>(key e he).2.2,h.2⟩
def Uy (I:aJ t)(f:jX t.vars L){op:Nat}(e:aj t.vars s)(g:op<t.M.length)(j:jZ t s op):(⟨cy t.vars L s,op,cy t.vars L (cD t s op)⟩:dr)∈cm t L :=
 EY.2 ⟨_,op,_,qF e f.mem,g,qF (sb I e g) f.mem,⟨s,e,rfl,j,rfl⟩,rfl⟩
def Ζ (g:jX t.vars L)(e:aj t.vars s)(h:cE s t.aF):gg t L (cy t.vars L s):=by
 have f:=qF e g.mem;rw[Ε f.1 f.2];exact⟨s,e,rfl,yq.2 fun x hx=>yq.1 h x (wT.1 hx).1⟩
end
section
open Go.Sl Go
attribute [local irreducible] vc opsW opsD opV opW PureV ReadV Thn Blk
def Ni {vars:J}(j:∀ x∈vars,1<=x):∀ (m:Nat) (q:J),m<=vars.length->jX vars q->(∀ v∈q,v<m)->bG vars q<=cZ (vars.take m)
 | 0,q,_,hq,hm=>by
  cases q with
  | nil=>simp[bG,gJ,cZ]
  | cons v q=>have:=hm v sm;have:=(hq.mem v sm).1;omega
 | m+1,q,B,hq,hm=>by
  have f:m<vars.length:=U;have hx:1<=vars.getD m W.dflt:=j _ (cS _ f);have o:1<=cZ (vars.take m):=Bl fun x hx=>j x (rZ hx);rw[eX W.dflt f,BH];rcases eq_nil_or_concat q with rfl|⟨l,v,rfl⟩
  ·have:bG vars []=1:=rfl
   have:=w9 o hx U U;omega
  simp only[concat_eq_append]at hq hm ⊢;obtain⟨k,⟨r,y⟩,z⟩:=hq.dt;have g:∀ u∈l,u<v:=fun u hu=>(D7.1 hq.Gg).2.2 u hu v sm;have A:=hm v sm;by_cases e:v=m
  ·subst e
   have n:=Ni j m l U k fun u hu=>g u hu;rw[LX,wF];exact zF n U
  have n:=Ni j m (l++[v]) U hq fun u hu=>by
   rcases kK.1 hu with h|h
   ·have:=g u h;omega
   rw[fU.1 h];omega
  have C:cZ (vars.take m)*1<=cZ (vars.take m)*vars.getD m W.dflt:=Ii hx U;omega
def D2 {vars q:J}(e:∀ x∈vars,1<=x)(hq:jX vars q):bG vars q<=cZ vars:=by
 have:=Ni e vars.length q (cP _) hq fun v hv=>(hq.mem v hv).2
 rwa[mK]at this
def Hb {p:J}(e:∀ x∈t.vars,1<=x)(h:cZ t.vars<=4096):¬tx t p:=fun⟨op,_,f⟩=>by
 have:=D2 e (Gh t.vars (kM t op) p);unfold lp at f;omega
instance (vars s:J):Decidable (aj vars s):=by unfold aj;infer_instance
instance (vars:J) (x:bE):Decidable (bV vars x):=by unfold bV;infer_instance
instance (vars:J) (f:List bE):Decidable (dN vars f):=by unfold dN;infer_instance
end
end Go.Proofs.YtmapkjoefdgjfaaGreatDoor
