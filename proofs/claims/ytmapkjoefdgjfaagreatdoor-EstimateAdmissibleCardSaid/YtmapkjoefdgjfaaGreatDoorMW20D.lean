/- Several texts. -/
import Derived.Test.YtmapkjoefdgjfaaGreatDoorMW19D
set_option linter.unusedSimpArgs false
set_option linter.unusedVariables false
set_option linter.defProp false
set_option maxRecDepth 8000
set_option maxHeartbeats 16000000
open List Nat
namespace Go.Proofs.YtmapkjoefdgjfaaGreatDoor
open Go.Sl
variable {t:aa}{v i k u:Nat}{w0 w:World}{a b c d:Value}{vs:List iX}{ss:List Value}
section
open Go.Sl Go
attribute [local irreducible] vc opsW opsD opV opW PureV ReadV Thn Blk
def qo (t:aa)(k:Nat)(v u:Nat):Prop:=∃ op,op<k/\y7 (t.Z.getD op bf) (u:Int) (v:Int)
def sR (o:ko)(j:Nat)(v u:Nat):Prop:=∃ i,i<j/\(o.aJ.getD i bE).var=v/\(jv o.pre u\/jv (o.aJ.getD i bE).bK u\/∃ d∈o.aJ,d.var=u)
def ζ:qo t (k+1) v u↔qo t k v u\/y7 (t.Z.getD k bf) (u:Int) (v:Int):=Br
def η {o:ko}{j:Nat}:sR o (j+1) v u↔sR o j v u\/((o.aJ.getD j bE).var=v/\(jv o.pre u\/jv (o.aJ.getD j bE).bK u\/∃ d∈o.aJ,d.var=u)):=Br
def θ {o:ko}:sR o o.aJ.length v u↔y7 o u v:=by
 constructor
 ·rintro⟨i,f,h1,g⟩
  exact⟨_,cD bE f,h1,g⟩
 rintro⟨e,he,h1,g⟩;obtain⟨i,f,rfl⟩:=fF he;exact⟨i,f,by rw[al f];exact⟨h1,g⟩⟩
def TW {l:List bo}{u:Int}:jv l u↔∃ i,i<l.length/\(l.getD i aq.dflt).var=u:=by
 constructor
 ·rintro⟨f,h,e⟩
  obtain⟨i,g,rfl⟩:=fF h;exact⟨i,g,by rw[al g];exact e⟩
 rintro⟨i,g,e⟩;exact⟨_,cD aq.dflt g,e⟩
def ι {l:List kU}{u:Int}:(∃ d∈l,d.var=u)↔∃ i,i<l.length/\(l.getD i bE).var=u:=by
 constructor
 ·rintro⟨f,h,e⟩
  obtain⟨i,g,rfl⟩:=fF h;exact⟨i,g,by rw[al g];exact e⟩
 rintro⟨i,g,e⟩;exact⟨_,cD bE g,e⟩
def TX {B E_ L F:Prop}:(B\/(E_/\L))\/(E_/\F)↔B\/(E_/\(L\/F)) :=
 ⟨fun h=>h.elim (fun h=>h.elim .inl fun h=>.inr ⟨h.1,.inl h.2⟩) fun h=>.inr ⟨h.1,.inr h.2⟩,fun h=>h.elim (fun h=>.inl (.inl h)) fun⟨h1,e⟩=>e.elim (fun h=>.inl (.inr ⟨h1,h⟩)) fun h=>.inr ⟨h1,h⟩⟩
def ν {K D E_ f P g X':Prop}(e:E_↔f):((K\/D)\/(E_/\(P\/g)))\/(E_/\X')↔K\/D\/(f/\(P\/g\/X')):=by
 rw[TX,or_assoc,<-e,or_assoc]
def ξ (ht:bz w0 a b c d vs t)(I:aC t) :
  Calls aj 134 #[.agg #[a,b,c,d]] w0 fun e w'=>∃ out ss M',e=.returned out/\MI M' t.vars.length (fun v u=>rc t (u:Int) (v:Int))/\M w0 w' [ai ah 4 ss M',X ar 140 out ss]:=by
 obtain⟨ha,hb,hc,hd⟩:=ht;have _c:=hd.rs;have _q:=hd.len;have _r:=_c.bT;have _s:=ha.bT;have hV:=I.vars;have Y:=M.start w0;refine bB ao Tryz.func134 ?_
 repeat (first|refine dB ?_|(refine iy ?_;clear Y;intro p w Y)|(refine fR ?_;clear Y;intro s w Y))
 obtain⟨B,rfl⟩:=À p;obtain⟨out,rfl⟩:=À s;have Y:=Y.gJ (T:=ah) (e:=4) t.vars.length;rw[<-Ov]at Y;obtain⟨ss,V⟩:=À (replicate t.vars.length (nS));have F:ss.length=t.vars.length:=by rw[V];simp
 have g:M w0 w [ai ah 4 ss (sk t.vars.length 0),X ar 140 out ss,ak B 26 [a,b,c,d]]:=by rw[V];exact Y
 clear Y V;have _d:(replicate (↑t.vars.length:Int).toNat (nS)).length=t.vars.length:=sm;refine dN [4,4,22,32] (G:=Nat) (H:=List Value) (fun k _=>[(22,E k)]) (fun k ss w=>k<=t.vars.length/\ss.length=t.vars.length/\M w0 w [ai ah 4 ss (sk t.vars.length k),X ar 140 out ss,ak B 26 [a,b,c,d]]) (fun k _=>t.vars.length-k) 0 ss (fun _ _=>rfl) ⟨rfl,au⟩ ⟨br _,F,g⟩ ?_;clear g F ss;rintro σ k ss w ⟨hk,F,Y⟩;refine aA ?_ ?_<;>intro h1
 ·refine lw ?_;clear Y;intro s w Y
  replace Y:=M.rG (i:=k) (by rw[Ou];omega) Y;rw[gY,Ox]at Y;exact⟨k+1,_,⟨rfl,au⟩,aV,⟨U,by rw[gS];exact F,Y⟩,U⟩
 have j':k=t.vars.length:=U;subst j';rw[Ow]at Y;refine W ?_;clear _d h1;refine dN [6,6,8,8,10,10,12,12,14,14,36,90] (G:=Nat) (H:=List (List Bool)) (fun k _=>[(36,E k)]) (fun k M' w=>k<=t.Z.length/\MI M' t.vars.length (qo t k)/\M w0 w [ai ah 4 ss M',X ar 140 out ss,ak B 26 [a,b,c,d]]) (fun k _=>t.Z.length-k) 0 _ (fun _ _=>rfl) ⟨rfl,au⟩ ⟨br _,(MI.rep t.vars.length).congr fun v u _ _=>⟨False.elim,fun⟨op,h,_⟩=>absurd h (dx _)⟩,Y⟩ ?_;clear Y hk;rintro σ k M' w ⟨hk,n,Y⟩;refine aA ?_ ?_<;>intro h1
 ·have P':k<t.Z.length:=U
  have H':=hd.dK k P';have _l:=H'.one;have C:=I.op k P';have y:=H'.pre;have _e:=y.bT;obtain⟨es,K⟩:=H'.aJ;have R':=K.rs;have _m:=K.len;have _n:=R'.bT;refine eB ?_;clear Y;intro P w Y;have g:M w0 w [ai ah 4 ss M',X ar 140 out ss,ak P 44 (cp.enc (az cp vs k)),ak B 26 [a,b,c,d]]:=Y.bb;clear Y;refine dN [8,8,10,10,12,12,14,14,43,89] (G:=Nat) (H:=List (List Bool)) (fun j _=>[(43,E j)]) (fun j M' w=>j<=(t.Z.getD k bf).aJ.length/\MI M' t.vars.length (fun v u=>qo t k v u\/sR (t.Z.getD k bf) j v u)/\M w0 w [ai ah 4 ss M',X ar 140 out ss,ak P 44 (cp.enc (az cp vs k)),ak B 26 [a,b,c,d]]) (fun j _=>(t.Z.getD k bf).aJ.length-j) 0 M' (fun _ _=>rfl) ⟨rfl,au⟩ ⟨br _,n.congr fun v u _ _=>⟨.inl,fun h=>h.elim id fun⟨i,h,_⟩=>absurd h (dx _)⟩,g⟩ ?_;clear g n M';rintro _f j M' w ⟨hj,n,Y⟩;refine aA ?_ ?_<;>intro Q
  ·have T':j<(t.Z.getD k bf).aJ.length:=U
   have J':=K.dK j T';have _t:=J'.one;have _u:=J'.var;have L:=J'.bK;have _o:=L.bT;have _v:=L.one;have _w:=y.one;have R:=C.fc j T';have _x:=tz R;refine eB ?_;clear Y;intro pe w Y
   repeat refine dB ?_
   have c1:=y.eJ;have c2:=L.eJ;have z1:(az cp vs k).pre.cells.size=1:=by have:=qq List.length c1;simpa using this
   have z2:(az aY es j).bK.cells.size=1:=by have:=qq List.length c2;simpa using this
   refine z7 (T:=ar) [(az cp vs k).pre,(az aY es j).bK] [(az cp vs k).pre,(az aY es j).bK] rfl (by simp[c1,c2,ar]) (by simp[z1,z2]) rfl rfl (fX rfl) (fb _) (fX rfl) Y ?_;clear Y;intro ls w Y;refine W ?_;have g:M w0 w [ai ah 4 ss M',X ar 140 out ss,X ar 23 ls [(az cp vs k).pre,(az aY es j).bK],ak pe 61 (aY.enc (az aY es j)),ak P 44 (cp.enc (az cp vs k)),ak B 26 [a,b,c,d]]:=Y.bb;clear Y;obtain⟨o,V'⟩:∃ o:Nat,((t.Z.getD k bf).aJ.getD j bE).var=(o:Int):=⟨((t.Z.getD k bf).aJ.getD j bE).var.toNat,U⟩
   have z:o<t.vars.length:=U;refine dN [10,10,12,12,53,72] (G:=Nat) (H:=List (List Bool)) (fun m _=>[(53,E m)]) (fun m M' w=>m<=2/\MI M' t.vars.length (fun v u=>(qo t k v u\/sR (t.Z.getD k bf) j v u)\/(v=o/\((0<m/\jv (t.Z.getD k bf).pre (u:Int))\/(1<m/\jv ((t.Z.getD k bf).aJ.getD j bE).bK (u:Int)))))/\M w0 w [ai ah 4 ss M',X ar 140 out ss,X ar 23 ls [(az cp vs k).pre,(az aY es j).bK],ak pe 61 (aY.enc (az aY es j)),ak P 44 (cp.enc (az cp vs k)),ak B 26 [a,b,c,d]]) (fun m _=>2-m) 0 M' (fun _ _=>rfl) ⟨rfl,au⟩ ⟨br _,n.congr fun v u _ _=>⟨.inl,fun h=>h.elim id fun hh=>hh.2.elim (fun h=>absurd h.1 (dx _)) fun h=>absurd h.1 (dx _)⟩,g⟩ ?_;clear g n M';rintro _y m M' w ⟨hm,n,Y⟩;refine aA ?_ ?_<;>intro h3
   ·have _a:m<2:=by simp at h3;omega
    obtain⟨A,fv,_g,_h,S⟩:∃ A fv,cF [(az cp vs k).pre,(az aY es j).bK] m=fv/\RS aq w0 fv A/\(∀ x∈A,bH t.vars x)/\∀ u:Nat,(((0<m+1/\jv (t.Z.getD k bf).pre (u:Int))\/(1<m+1/\jv ((t.Z.getD k bf).aJ.getD j bE).bK (u:Int)))↔(((0<m/\jv (t.Z.getD k bf).pre (u:Int))\/(1<m/\jv ((t.Z.getD k bf).aJ.getD j bE).bK (u:Int))))\/jv A u):=by
     have:m=0\/m=1:=U;rcases this with rfl|rfl
     ·exact⟨(t.Z.getD k bf).pre,_,by rw[l9];rfl,y,yr C.pre,fun u=>sm⟩
     exact⟨((t.Z.getD k bf).aJ.getD j bE).bK,_,by rw[l9];rfl,L,yr R.1,fun u=>sm⟩
    have _p:=_h.bT;refine W ?_;rw[_g];obtain⟨_i,S⟩:=S;refine W ?_;refine dN [12,12,59,71] (G:=Nat) (H:=List (List Bool)) (fun i _=>[(59,E i)]) (fun i M' w=>i<=A.length/\MI M' t.vars.length (fun v u=>((qo t k v u\/sR (t.Z.getD k bf) j v u)\/(v=o/\((0<m/\jv (t.Z.getD k bf).pre (u:Int))\/(1<m/\jv ((t.Z.getD k bf).aJ.getD j bE).bK (u:Int)))))\/(v=o/\∃ i',i'<i/\(A.getD i' aq.dflt).var=(u:Int)))/\M w0 w [ai ah 4 ss M',X ar 140 out ss,X ar 23 ls [(az cp vs k).pre,(az aY es j).bK],ak pe 61 (aY.enc (az aY es j)),ak P 44 (cp.enc (az cp vs k)),ak B 26 [a,b,c,d]]) (fun i _=>A.length-i) 0 M' (fun _ _=>rfl) ⟨rfl,au⟩ ⟨br _,n.congr fun v u _ _=>⟨.inl,fun h=>h.elim id fun⟨_,i',h,_⟩=>absurd h (dx _)⟩,Y⟩ ?_;clear Y n M';rintro _j i M' w ⟨hi,n,Y⟩;refine aA ?_ ?_<;>intro h4
    ·have q:i<A.length:=U
     have D:=_i _ (cD aq.dflt q);unfold bH at D;have hlen:=n.len;have _k:o<M'.length:=U;have N:=n.row o z;have r:(az aY es j).var.toNat=o:=U;refine c9 ?_;clear Y;intro p w Y;have g:M w0 w [ai ah 4 ss M',X ar 140 out ss,ak p 63 (aq.enc (A.getD i aq.dflt)),X ar 23 ls [(az cp vs k).pre,(az aY es j).bK],ak pe 61 (aY.enc (az aY es j)),ak P 44 (cp.enc (az cp vs k)),ak B 26 [a,b,c,d]]:=Y.bb;clear Y;have _b:=g.bP;have Y:=g.gW (i:=(az aY es j).var.toNat) U;clear g;rw[<-r]at N;refine eQ ?_;clear Y;intro w Y;replace Y:=M.mF (i:=(az aY es j).var.toNat) U U Y;rw[r]at Y;change M w0 w (ai ah 4 ss (lc M' o (A.getD i aq.dflt).var.toNat true)::_) at Y;refine⟨i+1,lc M' o (A.getD i aq.dflt).var.toNat true,⟨rfl,au⟩,aV,⟨U,?_,Y.bb⟩,U⟩;exact(n.vH (v:=o) (u:=(A.getD i aq.dflt).var.toNat) z U).congr fun v u _ _=>by
      rw[Br];refine or_assoc.trans (or_congr xV ?_);exact⟨fun h=>h.elim (fun h=>⟨h.1,.inl h.2⟩) fun h=>⟨h.1,.inr U⟩,fun⟨h1,Q⟩=>Q.elim (fun h=>.inl ⟨h1,h⟩) fun h=>.inr ⟨h1,U⟩⟩
    have D:i=A.length:=U;subst D;refine W ?_;exact⟨m+1,M',⟨rfl,au⟩,aV,⟨U,n.congr fun v u _ _=>by rw[S u,TW (l:=A)];exact TX,Y⟩,U⟩
   have _a:m=2:=by simp at h3;omega
   subst _a;have A:MI M' t.vars.length (fun v u=>(qo t k v u\/sR (t.Z.getD k bf) j v u)\/(v=o/\(jv (t.Z.getD k bf).pre (u:Int)\/jv ((t.Z.getD k bf).aJ.getD j bE).bK (u:Int)))):=n.congr fun v u _ _=>sm;clear n;refine W ?_;refine dN [14,14,76,88] (G:=Nat) (H:=List (List Bool)) (fun i _=>[(76,E i)]) (fun i M' w=>i<=(t.Z.getD k bf).aJ.length/\MI M' t.vars.length (fun v u=>((qo t k v u\/sR (t.Z.getD k bf) j v u)\/(v=o/\(jv (t.Z.getD k bf).pre (u:Int)\/jv ((t.Z.getD k bf).aJ.getD j bE).bK (u:Int))))\/(v=o/\∃ i',i'<i/\((t.Z.getD k bf).aJ.getD i' bE).var=(u:Int)))/\M w0 w [ai ah 4 ss M',X ar 140 out ss,ak pe 61 (aY.enc (az aY es j)),ak P 44 (cp.enc (az cp vs k)),ak B 26 [a,b,c,d]]) (fun i _=>(t.Z.getD k bf).aJ.length-i) 0 M' (fun _ _=>rfl) ⟨rfl,au⟩ ⟨br _,A.congr fun v u _ _=>⟨.inl,fun h=>h.elim id fun⟨_,i',h,_⟩=>absurd h (dx _)⟩,Y.bb⟩ ?_;clear Y A M';rintro _j i M' w ⟨hi,n,Y⟩;refine aA ?_ ?_<;>intro h4
   ·have q:i<(t.Z.getD k bf).aJ.length:=U
    have S:=K.dK i q;have _g:=S.one;have _h:=S.var;have _i:=tz (C.fc i q);have hlen:=n.len;have _k:o<M'.length:=U;have N:=n.row o z;have r:(az aY es j).var.toNat=o:=U;refine c9 ?_;clear Y;intro p w Y;have g:M w0 w [ai ah 4 ss M',X ar 140 out ss,ak p 61 (aY.enc (az aY es i)),ak pe 61 (aY.enc (az aY es j)),ak P 44 (cp.enc (az cp vs k)),ak B 26 [a,b,c,d]]:=Y.bb;clear Y;have _b:=g.bP;have Y:=g.gW (i:=(az aY es j).var.toNat) U;clear g;rw[<-r]at N;refine eQ ?_;clear Y;intro w Y;replace Y:=M.mF (i:=(az aY es j).var.toNat) U U Y;rw[r]at Y;change M w0 w (ai ah 4 ss (lc M' o (az aY es i).var.toNat true)::_) at Y;refine⟨i+1,lc M' o (az aY es i).var.toNat true,⟨rfl,au⟩,aV,⟨U,?_,Y.bb⟩,U⟩;exact(n.vH (v:=o) (u:=(az aY es i).var.toNat) z U).congr fun v u _ _=>by
     rw[Br];refine or_assoc.trans (or_congr xV ?_);exact⟨fun h=>h.elim (fun h=>⟨h.1,.inl h.2⟩) fun h=>⟨h.1,.inr U⟩,fun⟨h1,Q⟩=>Q.elim (fun h=>.inl ⟨h1,h⟩) fun h=>.inr ⟨h1,U⟩⟩
   have D:i=(t.Z.getD k bf).aJ.length:=U;subst D;refine W ?_;exact⟨j+1,M',⟨rfl,au⟩,aV,⟨U,n.congr fun v u _ _=>by rw[η,V',ι];exact ν U,Y.bb⟩,U⟩
  have o:j=(t.Z.getD k bf).aJ.length:=U;subst o;refine W ?_;exact⟨k+1,M',⟨rfl,au⟩,aV,⟨U,n.congr fun v u _ _=>by rw[ζ,θ],Y.bb⟩,U⟩
 have j':k=t.Z.length:=U;subst j';have j:=n.len;have f:=Y.bP;have A:MI M' t.vars.length (fun v u=>qo t t.Z.length v u/\¬(v<0/\u=v)):=n.congr fun v u _ _=>⟨fun h=>⟨h,fun h=>absurd h.1 (dx _)⟩,fun h=>h.1⟩
 clear n;refine W ?_;refine dN [15,15,93,102] (G:=Nat) (H:=List (List Bool)) (fun i _=>[(93,E i)]) (fun i M' w=>i<=t.vars.length/\MI M' t.vars.length (fun v u=>qo t t.Z.length v u/\¬(v<i/\u=v))/\M w0 w [ai ah 4 ss M',X ar 140 out ss,ak B 26 [a,b,c,d]]) (fun i _=>t.vars.length-i) 0 M' (fun _ _=>rfl) ⟨rfl,au⟩ ⟨br _,A,Y⟩ ?_;clear Y A j f M';rintro _f i M' w ⟨hi,n,Y⟩;have j:=n.len;have f:=Y.bP;refine aA ?_ ?_<;>intro o
 ·have q:i<t.vars.length:=U
  have N:=n.row i q;replace Y:=Y.gW (i:=i) U;refine eQ ?_;clear Y;intro w Y;replace Y:=M.mF (i:=i) U U Y;refine⟨i+1,_,⟨rfl,au⟩,aV,⟨U,?_,Y⟩,U⟩
  exact(n.MF (v:=i) (u:=i) q q).congr fun v u _ _=>⟨fun h=>⟨h.1.1,fun hh=>by
   by_cases e:v=i
   ·exact h.2 ⟨e,U⟩
   exact h.1.2 ⟨U,hh.2⟩⟩,fun h=>⟨⟨h.1,fun hh=>h.2 ⟨U,hh.2⟩⟩,fun hh=>h.2 ⟨U,U⟩⟩⟩
 have D:i=t.vars.length:=U;subst D;refine W ?_;refine bk (v:=out) rfl rfl ⟨out,ss,M',rfl,n.congr fun v u hv hu=>?_,Y.bb⟩;constructor
 ·rintro⟨h1,Q⟩
  exact⟨fun e=>Q ⟨hv,U⟩,h1⟩
 rintro⟨h1,Q⟩;exact⟨Q,fun hh=>h1 U⟩
def ο (t:aa)(u:Nat):fy t u 0=[]:=vl (cz _)
def ς (h:rc t (u:Int) (v:Int)):fy t u (v+1)=fy t u v++[⟨(u:Int),(v:Int),1⟩]:=by
 unfold fy;rw[qY (br _),aP h]
def τ (h:¬rc t (u:Int) (v:Int)):fy t u (v+1)=fy t u v:=by
 unfold fy;rw[qY (br _),aH h,fI]
def υ (t:aa)(u:Nat):bv t (u+1)=bv t u++fy t u t.vars.length:=by
 unfold bv;rw[qY (br _)]
def ω (C:bz w0 a b c d vs t)(I:aC t) :
  Calls aj 99 #[.agg #[a,b,c,d]] w0 fun e w'=>∃ f,e=.returned (.tuple #[f,.nilIface])/\M w0 w' [X bA 181 f (bv t t.vars.length)]:=by
 have n:=C;obtain⟨L,x,hc,hd⟩:=C;have N:=L.bT;have P:=I.vars;have Y:=M.start w0;refine bB ao Tryz.func99 ?_;refine eB ?_;intro r w Y;refine aU rfl (vY (n.at Y)) ?_;rintro _ w' ⟨rfl,an⟩;refine aI ?_;clear an Y;intro Y;rw[gy ((rQ t).2 I)];refine W ?_;refine aU rfl (ξ (n.at Y) I) ?_;rintro _ w' ⟨out,ss,m,rfl,z,an⟩;refine iL ?_;clear an Y;intro Y;have Q:=z.len;refine W ?_;have j:M w0 w' [X bA 181 (nS) (bv t 0),ai ah 4 ss m,X ar 140 out ss,ak r 26 [a,b,c,d]]:=Y.nil (T:=bA) (e:=181);clear Y;refine dN [6,8,19,42] (G:=Nat) (H:=Value) (fun u f=>[(19,E u),(6,f)]) (fun u f w=>u<=t.vars.length/\M w0 w [X bA 181 f (bv t u),ai ah 4 ss m,X ar 140 out ss,ak r 26 [a,b,c,d]]) (fun u _=>t.vars.length-u) 0 (nS) (fun _ _=>rfl) ⟨rfl,rfl,au⟩ ⟨br _,j⟩ ?_;clear j;rintro σ u f w ⟨hu,Y⟩;refine aA ?_ ?_<;>intro h1
 ·have A:u<t.vars.length:=U
  have R:=Oz t u;have D:u*t.vars.length<=64*64:=xQ U P;refine W ?_;have j:M w0 w [X bA 181 f (bv t u++fy t u 0),ai ah 4 ss m,X ar 140 out ss,ak r 26 [a,b,c,d]]:=by rw[ο,fI];exact Y
  clear Y;refine dN [6,6,8,8,25,41] (G:=Nat) (H:=Value) (fun v f=>[(25,E v),(6,f)]) (fun v f w=>v<=t.vars.length/\M w0 w [X bA 181 f (bv t u++fy t u v),ai ah 4 ss m,X ar 140 out ss,ak r 26 [a,b,c,d]]) (fun v _=>t.vars.length-v) 0 f (fun _ _=>rfl) ⟨rfl,rfl,au⟩ ⟨br _,j⟩ ?_;clear j;rintro S v l w ⟨hv,Y⟩;have V:=Y.tail.bP;refine aA ?_ ?_<;>intro h2
  ·have o:v<t.vars.length:=U
   have q:=Y.tail.row (i:=v) U;have j':=z.row v o;have B:=z.dK v u o A;have F:=Oy t u v;have K:(bv t u++fy t u v).length<=8192:=by rw[length_append];omega
   refine pV ?_;have g:(m.getD v []).getD u ah.dflt=true↔rc t (u:Int) (v:Int):=B
   cases x:(m.getD v []).getD u ah.dflt with
   | false =>
    rw[x]at g;refine W ?_
    exact⟨v+1,l,⟨rfl,rfl,au⟩,aV,⟨U,by rw[τ (fun h=>by have:=g.2 h;cases this)];exact Y⟩,U⟩
   | true =>
    rw[x]at g;refine W ?_;refine jG bA (x1:=⟨(u:Int),(v:Int),1⟩) rfl rfl rfl (fX rfl) (fb _) Y ?_;clear Y q;intro bs w Y
    refine rV (s:=l) (s2:=bs) inferInstance rfl rfl (bm Y) rfl rfl (fun y hy v hv=>by
     rw[dp.1 hy]at hv;simp only[bA,dZ,fM,pL]at hv
     rcases hv with rfl|rfl|rfl<;>rfl) (by simp only[length_cons,length_nil];omega) (by unfold bT;simp only[length_cons,length_nil];omega) Y ?_
    clear Y;intro s' w Y;refine W ?_;refine⟨v+1,s',⟨rfl,rfl,au⟩,aV,⟨U,?_⟩,U⟩;rw[ς (g.1 rfl),<-fG];exact Y.tail
  have g:v=t.vars.length:=U;subst g;rw[<-υ]at Y;refine W ?_;exact⟨u+1,l,⟨rfl,rfl,au⟩,aV,⟨U,Y⟩,U⟩
 have g:u=t.vars.length:=U;subst g;refine W ?_;exact cX (v:=f) (v':=.nilIface) rfl rfl rfl ⟨f,rfl,Y.bb⟩
def lK (t:aa)(v:Nat):Prop:=∃ f∈t.aG,f.var=(v:Int)
def ϊ:lK t v↔∃ i,i<t.aG.length/\(t.aG.getD i aq.dflt).var=(v:Int):=TW
def TY {a:Nat}:mS t [(a:Int)]↔lK t a:=by
 constructor
 ·rintro⟨⟨v,hv,h⟩,_⟩
  rw[dp.1 hv]at h;exact h
 exact fun h=>⟨⟨a,mem_singleton_self _,h⟩,Vr⟩
def ϋ {a b:Nat}:mS t [(a:Int),(b:Int)]↔(lK t a\/lK t b)/\dL t a b:=by
 unfold mS;rw[Vs];refine and_congr ?_ xV;unfold w7 lK;simp[or_and_right,exists_or]
def ό {a b c:Nat}:mS t [(a:Int),(b:Int),(c:Int)]↔(lK t a\/lK t b\/lK t c)/\((dL t a b/\dL t b c)\/(dL t a b/\dL t a c)\/(dL t a c/\dL t b c)):=by
 unfold mS;rw[Vt];refine and_congr ?_ xV;unfold w7 lK;simp[or_and_right,exists_or]
def ύ {x y:Nat}(hx:x<t.vars.length)(j:y<t.vars.length):(∃ i,i<(bv t t.vars.length).length/\(((bv t t.vars.length).getD i bA.dflt).ba=(x:Int)/\((bv t t.vars.length).getD i bA.dflt).dst=(y:Int)\/((bv t t.vars.length).getD i bA.dflt).dst=(x:Int)/\((bv t t.vars.length).getD i bA.dflt).ba=(y:Int)))↔dL t x y:=by
 constructor
 ·rintro⟨i,f,h⟩
  obtain⟨u,v,_,_,l,e⟩:=F1.1 (cD bA.dflt f);rw[e]at h;simp only at h;rcases h with ⟨h1,g⟩|⟨h1,g⟩
  ·exact .inl (by rw[<-h1,<-g];exact l)
  exact .inr (by rw[<-h1,<-g];exact l)
 rintro (h|h)
 ·obtain⟨i,f,e⟩:=fF (F1.2 ⟨x,y,hx,j,h,rfl⟩)
  exact⟨i,f,by rw[al f,e];exact .inl ⟨rfl,rfl⟩⟩
 obtain⟨i,f,e⟩:=fF (F1.2 ⟨y,x,j,hx,h,rfl⟩);exact⟨i,f,by rw[al f,e];exact .inr ⟨rfl,rfl⟩⟩
def eY (size:Int):Nat:=(max 1 (min size 3)).toNat
def ώ (size:Int):1<=eY size/\eY size<=3:=by unfold eY;omega
def Ϗ {size:Int}(ht:bz w0 a b c d vs t)(I:aC t)(V:t.vars.length<=12) :
  Calls aj 79 #[.agg #[a,b,c,d],E size] w0 fun e w'=>∃ m os,e=.returned (.tuple #[m,.nilIface])/\M w0 w' [ai O 3 os (fJ t (eY size)),X ar 22 m os]:=by
 have _s:=ht;obtain⟨ha,hb,hc,hd⟩:=ht;have _y:=ha.bT;have _z:=hc.bT;have Y:=M.start w0;refine bB ao Tryz.func79 ?_;refine eB ?_;clear Y;intro r w Y;refine aU rfl (ω (_s.at Y) I) ?_;rintro _ w' ⟨av,rfl,an⟩;refine aL ?_;clear an Y;intro Y;have _A:=Oz t t.vars.length;have _v:t.vars.length*t.vars.length<=12*12:=xQ V V;have _f:∀ i,i<(bv t t.vars.length).length->(0<=((bv t t.vars.length).getD i bA.dflt).ba/\((bv t t.vars.length).getD i bA.dflt).ba<t.vars.length)/\(0<=((bv t t.vars.length).getD i bA.dflt).dst/\((bv t t.vars.length).getD i bA.dflt).dst<t.vars.length):=fun i hi=>by
  obtain⟨u,v,hu,hv,_,e⟩:=F1.1 (cD bA.dflt hi);rw[e];simp only;omega
 refine lw ?_;clear Y;intro s w Y;obtain⟨out,rfl⟩:=À s;have Y:=Y.gJ (T:=ah) (e:=4) t.vars.length;rw[<-Ov]at Y;obtain⟨ss,R'⟩:=À (replicate t.vars.length (nS));have j':ss.length=t.vars.length:=by rw[R'];simp
 have f:M w0 w [ai ah 4 ss (sk t.vars.length 0),X ar 140 out ss,X bA 181 av (bv t t.vars.length),ak r 26 [a,b,c,d]]:=by rw[R'];exact Y
 clear Y R';have T':(replicate (↑t.vars.length:Int).toNat (nS)).length=t.vars.length:=sm;refine dN [10,10,39,47] (G:=Nat) (H:=List Value) (fun k _=>[(39,E k)]) (fun k ss w=>k<=t.vars.length/\ss.length=t.vars.length/\M w0 w [ai ah 4 ss (sk t.vars.length k),X ar 140 out ss,X bA 181 av (bv t t.vars.length),ak r 26 [a,b,c,d]]) (fun k _=>t.vars.length-k) 0 ss (fun _ _=>rfl) ⟨rfl,au⟩ ⟨br _,j',f⟩ ?_;clear f j' ss;rintro σ k ss w ⟨hk,j',Y⟩;refine aA ?_ ?_<;>intro h1
 ·refine lw ?_;clear Y;intro s w Y
  replace Y:=M.rG (i:=k) (by rw[Ou];omega) Y;rw[gY,Ox]at Y;exact⟨k+1,_,⟨rfl,au⟩,aV,⟨U,by rw[gS];exact j',Y⟩,U⟩
 have B:k=t.vars.length:=U;subst B;rw[Ow]at Y;clear T' h1;refine W ?_;refine dN [12,12,50,70] (G:=Nat) (H:=List (List Bool)) (fun k _=>[(50,E k)]) (fun k n w=>k<=(bv t t.vars.length).length/\MI n t.vars.length (fun x y=>(∃ i,i<k/\(((bv t t.vars.length).getD i bA.dflt).ba=(x:Int)/\((bv t t.vars.length).getD i bA.dflt).dst=(y:Int)\/((bv t t.vars.length).getD i bA.dflt).dst=(x:Int)/\((bv t t.vars.length).getD i bA.dflt).ba=(y:Int))))/\M w0 w [ai ah 4 ss n,X ar 140 out ss,X bA 181 av (bv t t.vars.length),ak r 26 [a,b,c,d]]) (fun k _=>(bv t t.vars.length).length-k) 0 _ (fun _ _=>rfl) ⟨rfl,au⟩ ⟨br _,(MI.rep t.vars.length).congr fun v u _ _=>⟨False.elim,fun⟨op,h,_⟩=>absurd h (dx _)⟩,Y⟩ ?_;clear Y hk;rintro σ k n w ⟨hk,hM,Y⟩;refine aA ?_ ?_<;>intro h1
 ·have j:k<(bv t t.vars.length).length:=U
  have D:=_f k j;have hlen:=hM.len;have A:=Y.bP;refine c9 ?_;clear Y;intro p w Y;refine fQ (pl [0,1,2,3,4,5,6,7,8,9,10,11,12,13,14,15] (.cJ 13::pl [16,17] [])) Y kr ?_;clear Y;intro w Y;refine W ?_;have f:M w0 w [ai ah 4 ss n,X ar 140 out ss,ak p 181 (bA.enc ((bv t t.vars.length).getD k bA.dflt)),X bA 181 av (bv t t.vars.length),ak r 26 [a,b,c,d]]:=Y.bb;clear Y;have _a:=hM.row ((bv t t.vars.length).getD k bA.dflt).ba.toNat U;have Y:=f.gW (i:=((bv t t.vars.length).getD k bA.dflt).ba.toNat) U;clear f;refine iC ?_;clear Y;intro w Y;replace Y:=M.mF (i:=((bv t t.vars.length).getD k bA.dflt).ba.toNat) U U Y;have o:=hM.vH (v:=((bv t t.vars.length).getD k bA.dflt).ba.toNat) (u:=((bv t t.vars.length).getD k bA.dflt).dst.toNat) U U;obtain⟨C,q⟩:=À (lc n ((bv t t.vars.length).getD k bA.dflt).ba.toNat ((bv t t.vars.length).getD k bA.dflt).dst.toNat true);rw[<-q]at o;change M w0 w (ai ah 4 ss (lc n ((bv t t.vars.length).getD k bA.dflt).ba.toNat ((bv t t.vars.length).getD k bA.dflt).dst.toNat true)::_) at Y;rw[<-q]at Y;have z:=o.len;have _g:=o.row ((bv t t.vars.length).getD k bA.dflt).dst.toNat U;replace Y:=Y.gW (i:=((bv t t.vars.length).getD k bA.dflt).dst.toNat) U;refine iC ?_;clear Y;intro w Y;replace Y:=M.mF (i:=((bv t t.vars.length).getD k bA.dflt).dst.toNat) U U Y
  change M w0 w (ai ah 4 ss (lc C ((bv t t.vars.length).getD k bA.dflt).dst.toNat ((bv t t.vars.length).getD k bA.dflt).ba.toNat true)::_) at Y;refine W ?_;refine⟨k+1,lc C ((bv t t.vars.length).getD k bA.dflt).dst.toNat ((bv t t.vars.length).getD k bA.dflt).ba.toNat true,⟨rfl,au⟩,aV,⟨U,?_,Y.bb⟩,U⟩;exact(o.vH (v:=((bv t t.vars.length).getD k bA.dflt).dst.toNat) (u:=((bv t t.vars.length).getD k bA.dflt).ba.toNat) U U).congr fun x y _ _=>by
   rw[Br,or_assoc];refine or_congr xV (or_congr ⟨fun h=>⟨U,U⟩,fun h=>⟨U,U⟩⟩ ⟨fun h=>⟨U,U⟩,fun h=>⟨U,U⟩⟩)
 have B:k=(bv t t.vars.length).length:=U;subst B;have hN:MI n t.vars.length (fun x y=>dL t (x:Int) (y:Int)):=hM.congr fun x y hx hy=>ύ hx hy;clear hM;have _B:=hN.len;refine lw ?_;clear Y;intro s w Y;obtain⟨gv,rfl⟩:=À s;rw[gY]at Y;refine dN [15,15,76,84] (G:=Nat) (H:=List Bool) (fun k _=>[(76,E k)]) (fun k G w=>k<=t.aG.length/\VI G t.vars.length (fun x=>(∃ i,i<k/\(t.aG.getD i aq.dflt).var=(x:Int)))/\M w0 w [X ah 4 gv G,ai ah 4 ss n,X ar 140 out ss,ak r 26 [a,b,c,d]]) (fun k _=>t.aG.length-k) 0 _ (fun _ _=>rfl) ⟨rfl,au⟩ ⟨br _,(VI.rep t.vars.length).congr fun v _=>⟨False.elim,fun⟨op,h,_⟩=>absurd h (dx _)⟩,Y.bb⟩ ?_;clear Y hk;rintro σ k G w ⟨hk,hG,Y⟩;have _C:=hG.len;refine aA ?_ ?_<;>intro h1
 ·have j:k<t.aG.length:=U
  have o:=yr I.aG _ (cD aq.dflt j);unfold bH at o;refine eB ?_;clear Y;intro p w Y;refine⟨k+1,_,⟨rfl,au⟩,aV,⟨U,?_,Y.tail⟩,U⟩;exact(hG.vH (u:=(t.aG.getD k aq.dflt).var.toNat) U).congr fun x _=>by
   rw[Br];exact or_congr xV ⟨fun h=>U,fun h=>U⟩
 have B:k=t.aG.length:=U;subst B;have hV:VI G t.vars.length (lK t):=hG.congr fun x _=>ϊ.symm;clear hG hk h1;obtain⟨K,_h⟩:=À (eY size);have _i:=ώ size;rw[<-_h]at _i ⊢;have H':(if (if 3<size then 3 else size)>1 then if 3<size then 3 else size else 1)=(K:Int):=by rw[_h];unfold eY;split<;>split at*<;> omega
 refine W ?_;have f:M w0 w [ai O 3 [] (uA t 0),X ar 22 (nS) [],X ah 4 gv G,ai ah 4 ss n,X ar 140 out ss,ak r 26 [a,b,c,d]]:=Y.nil.qH;clear Y;refine nE [16,17,89,101] (G:=Nat) (H:=Value) (I':=List Value) (fun k m _=>[(89,E k),(16,m)]) (fun k m os w=>k<=t.vars.length/\M w0 w [ai O 3 os (uA t k),X ar 22 m os,X ah 4 gv G,ai ah 4 ss n,X ar 140 out ss,ak r 26 [a,b,c,d]]) (fun k _ _=>t.vars.length-k) 0 (nS) [] (fun _ _ _=>rfl) ⟨rfl,rfl,au⟩ ⟨br _,f⟩ ?_;clear f;rintro σ k m os w ⟨hk,Y⟩;refine aA ?_ ?_<;>intro h1
 ·have j:k<t.vars.length:=U
  have o:=hV.dK k j;have hlen:=Oq (t:=t) V (k:=k) U;have J':=Y.bP;have z:uA t (k+1)=uA t k++vm t [(k:Int)]:=by unfold uA;rw[qY (br k)]
  refine pV ?_
  cases hb:G.getD k ah.dflt with
  | false =>
   rw[show G.getD k false=false from hb]at o;refine W ?_
   exact⟨k+1,m,os,⟨rfl,rfl,au⟩,aV,⟨U,by rw[z,Jn (fun h=>by have:=o.2 (TY.1 h);cases this),fI];exact Y⟩,U⟩
  | true =>
   rw[show G.getD k false=true from hb]at o
   repeat (first|refine dB ?_|(refine fR ?_;clear Y;intro s w Y))
   exact⟨k+1,_,_,⟨rfl,rfl,au⟩,aV,⟨U,by rw[z,Jm (TY.2 (o.1 rfl))];exact Y.tail.j0⟩,U⟩
 have B:k=t.vars.length:=U;subst B;have _t:=Oq (t:=t) V (cz _);have L:uB t t.vars.length 0=[]:=vl (cz _);have f:M w0 w [ai O 3 os (uA t t.vars.length++uB t t.vars.length 0),X ar 22 m os,X ah 4 gv G,ai ah 4 ss n,X ar 140 out ss,ak r 26 [a,b,c,d]]:=by rw[L,fI];exact Y
 clear Y h1 hk;refine W ?_;refine nE [16,16,18,19,102,142] (G:=Nat) (H:=Value) (I':=List Value) (fun k m _=>[(18,E k),(16,m)]) (fun k m os w=>k<=t.vars.length/\(2<=K\/k=0)/\M w0 w [ai O 3 os (uA t t.vars.length++uB t t.vars.length k),X ar 22 m os,X ah 4 gv G,ai ah 4 ss n,X ar 140 out ss,ak r 26 [a,b,c,d]]) (fun k _ _=>t.vars.length-k) 0 m os (fun _ _ _=>rfl) ⟨rfl,rfl,au⟩ ⟨br _,.inr rfl,f⟩ ?_;clear f;rintro _D k m os w ⟨hk,_j,Y⟩;have D:=Y.bP;refine aA ?_ ?_<;>intro h1
 ·rw[H']at h1
  have q:k<t.vars.length:=U;have _b:=Ot V q (cz _);refine W ?_;have R:vn t k (k+1)=[]:=vl (cz _);have f:M w0 w [ai O 3 os (uA t t.vars.length++uB t t.vars.length k++vn t k (k+1)),X ar 22 m os,X ah 4 gv G,ai ah 4 ss n,X ar 140 out ss,ak r 26 [a,b,c,d]]:=by rw[R,fI];exact Y
  clear Y D;refine nE [16,16,19,19,113,142] (G:=Nat) (H:=Value) (I':=List Value) (fun j m _=>[(19,E j),(16,m)]) (fun j m os w=>k+1<=j/\j<=t.vars.length/\M w0 w [ai O 3 os (uA t t.vars.length++uB t t.vars.length k++vn t k j),X ar 22 m os,X ah 4 gv G,ai ah 4 ss n,X ar 140 out ss,ak r 26 [a,b,c,d]]) (fun j _ _=>t.vars.length-j) (k+1) m os (fun _ _ _=>rfl) ⟨rfl,rfl,au⟩ ⟨cz _,U,f⟩ ?_;clear f;rintro _u j F C w ⟨P',hj,Y⟩;refine aA ?_ ?_<;>intro h2
  ·have A:j<t.vars.length:=U
   have N:=hV.dK k q;have P:=hV.dK j A;have Q:=hN.dK k j q A;have V':=Ot V q hj;have J':=Y.bP;rw[length_append,length_append]at J';have z:vn t k (j+1)=vn t k j++vm t [(k:Int),(j:Int)]:=by unfold vn;rw[qY P']
   have S:=Y.tail.tail.tail.row (i:=k) U;have _a:=hN.row k q;have o:((G.getD k ah.dflt || G.getD j ah.dflt) && (n.getD k []).getD j ah.dflt)=true↔mS t [(k:Int),(j:Int)]:=by
    rw[ϋ,<-N,<-P,<-Q,Bool.and_eq_true,pO];rfl
   refine pV ?_
   cases hb:((G.getD k ah.dflt || G.getD j ah.dflt) && (n.getD k []).getD j ah.dflt) with
   | false =>
    rw[hb]at o;refine W ?_
    exact⟨j+1,F,C,⟨rfl,rfl,au⟩,aV,⟨U,U,by rw[z,Jn (fun h=>by have:=o.2 h;cases this),fI];exact Y⟩,U⟩
   | true =>
    rw[hb]at o;clear S;refine W ?_;refine z7 (T:=O) [(k:Int),(j:Int)] [E k,E j] rfl rfl rfl rfl rfl (fX rfl) (fb _) (fX rfl) Y ?_;clear Y;intro sv w Y
    repeat (first|refine dB ?_|(refine fR ?_;clear Y;intro s w Y))
    exact⟨j+1,_,_,⟨rfl,rfl,au⟩,aV,⟨U,U,by rw[z,Jm (o.1 rfl),<-fG];exact Y.tail.j0⟩,U⟩
  have _a:j=t.vars.length:=U;subst _a;refine W ?_;refine⟨k+1,F,C,⟨rfl,rfl,au⟩,aV,⟨U,.inl U,?_⟩,U⟩;rw[show uB t t.vars.length (k+1)=uB t t.vars.length k++vn t k t.vars.length by unfold uB;rw[qY (br k)],<-fG];exact Y
 rw[H']at h1
 obtain⟨R,_k,_w,_b⟩:∃ R,uA t t.vars.length++uB t t.vars.length k=R/\R.length<=78/\R=if 2<=K then jg t 1++jg t 2 else jg t 1:=by
  refine⟨_,rfl,?_,?_⟩
  ·have:=(Dk V).2.1
   rw[Js]at this;have h3:=Cd (g:=fun a=>vn t a t.vars.length) (lo:=0) hk;unfold uB at *
   rw[length_append];omega
  by_cases e:2<=K
  ·rw[aP e,Jr,Js,show k=t.vars.length by omega]
  rw[aH e,Jr,show k=0 by omega,L,fI]
 rw[_k]at Y D;clear _k h1 hk _j L _t;have S:si t t.vars.length 0=[]:=vl (cz _);have f:M w0 w [ai O 3 os (R++si t t.vars.length 0),X ar 22 m os,X ah 4 gv G,ai ah 4 ss n,X ar 140 out ss,ak r 26 [a,b,c,d]]:=by rw[S,fI];exact Y
 clear Y;refine W ?_;refine nE [16,16,20,23,143,248] (G:=Nat) (H:=Value) (I':=List Value) (fun k m _=>[(20,E k),(16,m)]) (fun k m os w=>k<=t.vars.length/\(3<=K\/k=0)/\M w0 w [ai O 3 os (R++si t t.vars.length k),X ar 22 m os,X ah 4 gv G,ai ah 4 ss n,X ar 140 out ss,ak r 26 [a,b,c,d]]) (fun k _ _=>t.vars.length-k) 0 m os (fun _ _ _=>rfl) ⟨rfl,rfl,au⟩ ⟨br _,.inr rfl,f⟩ ?_;clear f D;rintro _u k m os w ⟨hk,_j,Y⟩;have D:=Y.bP;have _E:(si t t.vars.length k).length<=220:=by
  have h:=(Dk V).2.2;rw[Jt]at h;have h3:=Cd (g:=fun a=>tE t t.vars.length a t.vars.length) (lo:=0) hk;unfold si at *
  omega
 rw[length_append]at D;refine aA ?_ ?_<;>intro h1
 ·rw[H']at h1
  have q:k<t.vars.length:=U;refine W ?_;have _l:tE t t.vars.length k (k+1)=[]:=vl (cz _);have f:M w0 w [ai O 3 os (R++si t t.vars.length k++tE t t.vars.length k (k+1)),X ar 22 m os,X ah 4 gv G,ai ah 4 ss n,X ar 140 out ss,ak r 26 [a,b,c,d]]:=by rw[_l,fI];exact Y
  clear Y D;refine nE [16,16,21,23,159,248] (G:=Nat) (H:=Value) (I':=List Value) (fun j m _=>[(21,E j),(16,m)]) (fun j m os w=>k+1<=j/\j<=t.vars.length/\M w0 w [ai O 3 os (R++si t t.vars.length k++tE t t.vars.length k j),X ar 22 m os,X ah 4 gv G,ai ah 4 ss n,X ar 140 out ss,ak r 26 [a,b,c,d]]) (fun j _ _=>t.vars.length-j) (k+1) m os (fun _ _ _=>rfl) ⟨rfl,rfl,au⟩ ⟨cz _,U,f⟩ ?_;clear f;rintro _F j F C w ⟨P',hj,Y⟩;refine aA ?_ ?_<;>intro h2
  ·have A:j<t.vars.length:=U
   refine W ?_;have _m:v8 t k j (j+1)=[]:=vl (cz _);have f:M w0 w [ai O 3 C (R++si t t.vars.length k++tE t t.vars.length k j++v8 t k j (j+1)),X ar 22 F C,X ah 4 gv G,ai ah 4 ss n,X ar 140 out ss,ak r 26 [a,b,c,d]]:=by rw[_m,fI];exact Y
   clear Y;refine nE [16,16,22,23,166,248] (G:=Nat) (H:=Value) (I':=List Value) (fun l m _=>[(22,E l),(16,m)]) (fun l m os w=>j+1<=l/\l<=t.vars.length/\M w0 w [ai O 3 os (R++si t t.vars.length k++tE t t.vars.length k j++v8 t k j l),X ar 22 m os,X ah 4 gv G,ai ah 4 ss n,X ar 140 out ss,ak r 26 [a,b,c,d]]) (fun l _ _=>t.vars.length-l) (j+1) F C (fun _ _ _=>rfl) ⟨rfl,rfl,au⟩ ⟨cz _,U,f⟩ ?_;clear f;rintro _G l _n _o w ⟨T',hl,Y⟩;refine aA ?_ ?_<;>intro h3
   ·have _c:l<t.vars.length:=U
    have N:=hV.dK k q;have P:=hV.dK j A;have Q:=hV.dK l _c;have _p:=hN.dK k j q A;have _q:=hN.dK j l A _c;have _r:=hN.dK k l q _c;have V':=VA V q P' A hl;have J':=Y.bP;rw[length_append,length_append,length_append]at J';have z:v8 t k j (l+1)=v8 t k j l++vm t [(k:Int),(j:Int),(l:Int)]:=by unfold v8;rw[qY T']
    have _d:=Y.tail.tail.tail.row (i:=k) U;have _g:=hN.row k q;have _e:=Y.tail.tail.tail.row (i:=j) U;have _x:=hN.row j A;have o:(((n.getD k []).getD j ah.dflt && (n.getD j []).getD l ah.dflt || (n.getD k []).getD j ah.dflt && (n.getD k []).getD l ah.dflt || (n.getD k []).getD l ah.dflt && (n.getD j []).getD l ah.dflt) && (G.getD k ah.dflt || G.getD j ah.dflt || G.getD l ah.dflt))=true↔mS t [(k:Int),(j:Int),(l:Int)]:=by
     rw[ό,<-N,<-P,<-Q,<-_p,<-_q,<-_r];simp only[Bool.and_eq_true,pO];exact⟨fun⟨h1,h2⟩=>⟨or_assoc.1 h2,or_assoc.1 h1⟩,fun⟨h1,h2⟩=>⟨or_assoc.2 h2,or_assoc.2 h1⟩⟩
    refine pV ?_
    cases hb:(((n.getD k []).getD j ah.dflt && (n.getD j []).getD l ah.dflt || (n.getD k []).getD j ah.dflt && (n.getD k []).getD l ah.dflt || (n.getD k []).getD l ah.dflt && (n.getD j []).getD l ah.dflt) && (G.getD k ah.dflt || G.getD j ah.dflt || G.getD l ah.dflt)) with
    | false =>
     rw[hb]at o;refine W ?_
     exact⟨l+1,_n,_o,⟨rfl,rfl,au⟩,aV,⟨U,U,by rw[z,Jn (fun h=>by have:=o.2 h;cases this),fI];exact Y⟩,U⟩
    | true =>
     rw[hb]at o;clear _d _e;refine W ?_;refine z7 (T:=O) [(k:Int),(j:Int),(l:Int)] [E k,E j,E l] rfl rfl rfl rfl rfl (fX rfl) (fb _) (fX rfl) Y ?_;clear Y;intro sv w Y
     repeat (first|refine dB ?_|(refine fR ?_;clear Y;intro s w Y))
     exact⟨l+1,_,_,⟨rfl,rfl,au⟩,aV,⟨U,U,by rw[z,Jm (o.1 rfl),<-fG];exact Y.tail.j0⟩,U⟩
   have eH:l=t.vars.length:=U;subst eH;refine W ?_;refine⟨j+1,_n,_o,⟨rfl,rfl,au⟩,aV,⟨U,U,?_⟩,U⟩;rw[show tE t t.vars.length k (j+1)=tE t t.vars.length k j++v8 t k j t.vars.length by unfold tE;rw[qY P'],<-fG];exact Y
  have _a:j=t.vars.length:=U;subst _a;refine W ?_;refine⟨k+1,F,C,⟨rfl,rfl,au⟩,aV,⟨U,.inl U,?_⟩,U⟩;rw[show si t t.vars.length (k+1)=si t t.vars.length k++tE t t.vars.length k t.vars.length by unfold si;rw[qY (br k)],<-fG];exact Y
 rw[H']at h1;have j:R++si t t.vars.length k=fJ t K:=by
  have:K=1\/K=2\/K=3:=U;rcases this with e|e|e
  ·rw[_b,aH U,e,Vx,show k=0 by omega,S,fI]
  ·rw[_b,aP U,e,Vy,show k=0 by omega,S,fI]
  rw[_b,aP U,e,Vz,Jt,show k=t.vars.length by omega]
 have o:(fJ t K).length<=298:=by rw[<-j,length_append];omega
 rw[j]at Y;have q:os.length=(fJ t K).length:=Y.bP;refine aA ?_ ?_<;>intro z
 ·exfalso;omega
 refine W ?_;exact cX (v:=m) (v':=.nilIface) rfl rfl rfl ⟨m,os,rfl,Y.bb⟩
end
section
open Go.Sl
def ϐ {n m:Nat}(e:n<=12)(hm:m<=3):(sj n m).length<=220:=by
 have h:=Oo n U;have:m=0\/m=1\/m=2\/m=3:=U;rcases this with rfl|rfl|rfl|rfl
 ·simp[sj]
 ·omega
 ·omega
 omega
def ϑ (t:aa):fJ t 0=[]:=vl U
def a_ (t:aa)(m:Nat):fJ t (m+1)=fJ t m++jg t (m+1):=by
 unfold fJ;rw[qY U]
def TZ {t:aa}(e:t.vars.length<=12):∀ {m:Nat},m<=3->(fJ t m).length<=m*220
 | 0,_=>by rw[ϑ];exact cz _
 | m+1,h=>by
  have f:=TZ e (m:=m) U;have h1:=F0 (t:=t) (m+1);have g:=ϐ e (m:=m+1) U;rw[a_,length_append];omega
end
section
open Go.Sl Go
attribute [local irreducible] vc opsW opsD opV opW PureV ReadV Thn Blk
def T0 {n:Nat}:∀ {m:Nat}{p:J},p∈sj n m->(∀ v∈p,0<=v/\v<(n:Int))/\p.Pairwise (·<·)/\∀ v∈p,v<(qI p:Int)
 | 0,p,h=>by
  have e:p=[]:=by simpa [sj] using h
  subst e
  exact⟨fun v hv=>absurd hv fM,Pairwise.nil,fun v hv=>absurd hv fM⟩
 | m+1,p,h=>by
  obtain⟨q,hq,g⟩:=tm.1 h;obtain⟨h1,j,f⟩:=T0 hq;obtain⟨k,r,x,hk⟩:=Dj.1 g;obtain rfl:=dp.1 hk;refine⟨fun v hv=>?_,Cp.2 ⟨j,sm,fun a l b o=>?_⟩,fun v hv=>?_⟩
  ·rcases gK.1 hv with hv|hv
   ·exact h1 v hv
   rw[dp.1 hv];omega
  ·rw[dp.1 o]
   have:=f a l;omega
  rw[Jp];rcases gK.1 hv with hv|hv
  ·have:=f v hv;omega
  rw[dp.1 hv];omega
def T1 {p:J}(h:p∈fJ t k):jr t.vars p:=by
 obtain⟨m,_,_,hm⟩:=Dj.1 h;have:=T0 (rP.1 hm).1;exact⟨this.1,this.2.1⟩
noncomputable def db (t:aa)(size:Int):List J:=(fJ t (eY size)).take 32
def EC (t:aa)(size:Int):(db t size).length<=32:=by unfold db;rw[jf];omega
def BA {size:Int}(h:i<(db t size).length):jr t.vars ((db t size).getD i []):=by
 rw[al h];exact T1 (pU (wq h))
def TL {size:Int}(e:fA t)(h:i<(db t size).length):cO t ((db t size).getD i [])=0:=(K5 e (BA h)).1
def b_ {size:Int}(h:i<(db t size).length):(db t size).getD i []=(fJ t (eY size)).getD i []:=by
 have f:i<(fJ t (eY size)).length:=by unfold db at h;rw[jf]at h;omega
 have e:i<32:=by have:=EC t size;omega
 show ((fJ t (eY size)).take 32).getD i []=_;simp only[List.getD];rw[wE,aP e]
def c_ {os:List Value}(h:i<(os.take k).length):cF (os.take k) i=cF os i:=by
 rw[jf]at h;rw[l9,l9];simp only[List.getD];rw[wE,aP U]
def d_ {os:List Value}(h:k<os.length):os.take (k+1)=os.take k++[cF os k]:=by
 rw[eD undef h,l9]
def T2 {size:Int}{f:Value}{os:List Value}{Γ:List HP}(Y:M w0 w (X ar 22 f (os.take 32)::ai O 3 os (fJ t (eY size))::Γ)):∃ ss,sh w f ss (db t size):=by
 have g:os.length=(fJ t (eY size)).length:=Y.swap.bP;refine⟨os.take 32,Y.rs 0 rfl,by unfold db;rw[jf,jf,g],fun i e=>?_⟩;have h:i<(fJ t (eY size)).length:=by unfold db at e;rw[jf]at e;omega
 rw[b_ e,c_ (by unfold db at e;rw[jf]at e ⊢;rw[g];exact e)];exact Y.swap.row h
def TJ {size:Int}(C:bz w0 a b c d vs t)(x:fA t) :
  Calls aj 55 #[.agg #[a,b,c,d],E size] w0 fun e w'=>∃ f,e=.returned (.tuple #[f,.nilIface])/\M w0 w' [bj fun w=>∃ ss,sh w f ss (db t size)]:=by
 have I:=x.da;have F:=TZ (t:=t) x.vars (m:=eY size) (by unfold eY;omega);have Y:=M.start w0;refine bB ao Tryz.func55 ?_;refine eB ?_;intro y w Y;refine aU rfl (Ϗ (C.at Y) I x.vars) ?_;rintro _ w' ⟨z,os,rfl,an⟩;refine iL ?_;clear an Y;intro Y;have K:os.length=(fJ t (eY size)).length:=Y.bP;replace Y:=Y.nil (T:=ar) (e:=22);refine W ?_;have q:M w0 w' [X ar 22 (nS) (os.take 0),ai O 3 os (fJ t (eY size)),X ar 22 z os,ak y 26 [a,b,c,d]]:=Y;refine dN [8,8,10,12,24,43] (G:=Nat) (H:=Value) (fun k f=>[(24,E k),(8,f)]) (fun k f w=>k<=os.length/\k<=32/\M w0 w [X ar 22 f (os.take k),ai O 3 os (fJ t (eY size)),X ar 22 z os,ak y 26 [a,b,c,d]]) (fun k _=>os.length-k) 0 (nS) (fun _ _=>rfl) ⟨rfl,rfl,au⟩ ⟨br _,U,q⟩ ?_;clear Y q;rintro σ k f w ⟨hk,D,Y⟩;have N:(os.take k).length=k:=by rw[jf];omega
 refine aA ?_ ?_<;>intro h1
 ·have A:k<os.length:=U
  have j:k<(fJ t (eY size)).length:=U;have g:=Y.swap.row j;refine aA ?_ ?_<;>intro h2
  ·have l:k=32:=U
   subst l;refine W ?_;exact cX (v:=f) (v':=.nilIface) rfl rfl rfl ⟨f,rfl,(M.rd (Δ:=[X ar 22 f (os.take 32),ai O 3 os (fJ t (eY size)),X ar 22 z os,ak y 26 [a,b,c,d]]) (Γ:=[]) (φ:=fun w=>∃ ss,sh w f ss (db t size)) (fun _ _ h=>T2 h) Y).only⟩
  have o:cO t ((fJ t (eY size)).getD k [])=0:=(K5 x (T1 (by rw[al j];exact wq j))).1;obtain⟨L,P⟩:=À ((fJ t (eY size)).getD k []);rw[<-P]at o g;refine W ?_;refine aU rfl (FO (vp:=cF os k) (L:=L) (C.at Y) g) ?_;rintro _ w' ⟨Q,R,gv,rfl,an⟩;rw[o,FP]at an;rw[o,gy rfl,FP,NT];have r:=Y.call an;clear an Y;have Y:=r;clear r;refine⟨_,rfl,?_⟩;have S:=(Y.rs 0 rfl).one;have V:=(Y.rs 1 rfl).one;have o3:=(Y.rs 2 rfl).one;refine I0 ?_;intro p w Y;refine jH (n:=5) (p:=p) (vs:=[E (bp t.vars L),E (bU t.vars L t.cE),Q,R,gv]) rfl rfl Y inferInstance rfl rfl (by simp only[ew,eN,S,V,o3];rfl) ?_;clear Y;intro w Y
  repeat (first|refine dB ?_|(refine fR ?_;clear Y;intro s w Y))
  obtain⟨B,rfl⟩:=À s;rw[<-d_ A]at Y;exact⟨k+1,B,⟨rfl,rfl,au⟩,aV,⟨U,U,Y.tail.tail.tail.tail.tail⟩,U⟩
 refine W ?_;have l:os.take k=os.take 32:=by rw[gH U,gH U]
 rw[l]at Y;exact cX (v:=f) (v':=.nilIface) rfl rfl rfl ⟨f,rfl,(M.rd (Δ:=[X ar 22 f (os.take 32),ai O 3 os (fJ t (eY size)),X ar 22 z os,ak y 26 [a,b,c,d]]) (Γ:=[]) (φ:=fun w=>∃ ss,sh w f ss (db t size)) (fun _ _ h=>T2 h) Y).only⟩
def kR (t:aa)(Ls:List J)(f:List Value)(e:List J)(w:World):Prop:=f.length=e.length/\∀ i,i<e.length->∃ q,cF f i=.pointer (some q)/\v6 w q (nG t (Ls.getD i []) (e.getD i []))
def q8 (ps:List Value)(e:List J)(w:World):Prop:=ps.length=e.length/\∀ i,i<e.length->RS O w (cF ps i) (e.getD i [])
def Au (w:World)(p:Addr)(t:aa)(Ls l m:List J):Prop:=∃ e f g h j,dO w p [e,f,g]/\RS O w e t.vars/\RS ar w f h/\kR t Ls h l w/\RS ar w g j/\q8 j m w
def kR.at {w0 w:World}{Γ:List HP}{t:aa}{Ls:List J}{e:List Value}{f:List J}(h:kR t Ls e f w0)(Y:M w0 w Γ):kR t Ls e f w:=⟨h.1,fun i g=>let ⟨q,a,b⟩:=h.2 i g;⟨q,a,b.at Y⟩⟩
def q8.at {w0 w:World}{Γ:List HP}{ps:List Value}{e:List J}(h:q8 ps e w0)(Y:M w0 w Γ):q8 ps e w:=⟨h.1,fun i f=>(h.2 i f).at Y⟩
def Au.at {w0 w:World}{Γ:List HP}{p:Addr}{t:aa}{Ls e f:List J}(h:Au w0 p t Ls e f)(Y:M w0 w Γ):Au w p t Ls e f:=by
 obtain⟨g,j,l,m,n,h1,o,q,r,x,y⟩:=h;exact⟨g,j,l,m,n,h1.at Y,o.at Y,q.at Y,r.at Y,x.at Y,y.at Y⟩
def T3 {v:Value}(h:i<ss.length):cF (ss++[v]) i=cF ss i:=by simp[l9,iB,js h]
def T4 {v:Value}(h:i=ss.length):cF (ss++[v]) i=v:=by subst h;simp[l9,iB]
def kR.fe {Ls:List J}{g:List Value}{f:List J}{q:Addr}{D:J}(h:kR t Ls g f w)(hq:v6 w q (nG t (Ls.getD f.length []) D)):kR t Ls (g++[.pointer (some q)]) (f++[D]) w:=by
 have h1:=h.1;refine⟨by simp[h1],fun i l=>?_⟩;simp only[length_append,length_cons,length_nil]at l;by_cases e:i<f.length
 ·rw[T3 U,A0 e];exact h.2 i e
 have j:i=f.length:=U;rw[T4 U,zG j,j];exact⟨q,rfl,hq⟩
def q8.fe {ps:List Value}{f:List J}{s:Value}{S:J}(h:q8 ps f w)(g:RS O w s S):q8 (ps++[s]) (f++[S]) w:=by
 have h1:=h.1;refine⟨by simp[h1],fun i j=>?_⟩;simp only[length_append,length_cons,length_nil]at j;by_cases e:i<f.length
 ·rw[T3 U,A0 e];exact h.2 i e
 have l:i=f.length:=U;rw[T4 U,zG l];exact g
open Classical in
noncomputable def nW (t:aa)(Ls:List J):Int:=if bX t≠0 then bX t else if ∃ i,i<Ls.length/\¬fm t.vars (Ls.getD i []) then 2 else if 32<Ls.length then 5 else 0
def mq (t:aa)(k:Nat):J:=(List.range t.Z.length).map fun i=>if i<k then (am t).getD i O.dflt else 0
def e_ (t:aa)(k:Nat):(mq t k).length=t.Z.length:=by simp[mq]
def f_ (t:aa):mq t 0=replicate t.Z.length 0:=by
 apply iA (by simp[mq]);intro i h1 e;simp[mq]
def g_ (t:aa):mq t t.Z.length=am t:=by
 apply iA (by simp[mq,am]);intro i h1 e;have f:i<t.Z.length:=by simpa [mq] using h1
 simp[mq,f,List.getD,e]
def h_:(mq t k).set k ((am t).getD k O.dflt)=mq t (k+1):=by
 apply iA (by simp[mq]);intro i h1 f;rw[sb];simp only[mq,mL,qW];split
 ·rename_i e;subst e;rw[aP U]
 by_cases h:i<k
 ·rw[aP h,aP U]
 rw[aH h,aH U]
def i_ {cs:J}(h:cs.length=t.Z.length):uy t cs=cs:=by
 unfold uy;split
 ·rename_i e
  rw[nY e];exact nY (by simp only[am,iW];omega)
 rfl
def et.BO {c L:J}(h:et t c)(I:aC t)(e:cO t L=0):iE t L c=0:=by
 unfold iE;rw[aH (by rw[(rQ t).2 I];decide),aH (by have:=h.len;omega),aH (fun⟨x,hx,f⟩=>by have:=h.dC x hx;unfold mQ at f;omega),e]
def Β {s:Value}{Ls:List J}(ht:bz w0 a b c d vs t)(hl:sh w0 s ss Ls)(hP:aC t->(∀ i,i<Ls.length->fm t.vars (Ls.getD i []))->Ls.length<=32->∀ i,i<Ls.length->cO t (Ls.getD i [])=0) :
  Calls aj 57 #[.agg #[a,b,c,d],s] w0 fun e w' =>
   (nW t Ls≠0/\e=.returned (.tuple #[.pointer none,bO (nW t Ls)])/\M w0 w' []) \/
   (nW t Ls=0/\aC t/\Ls.length<=32/\(∀ i,i<Ls.length->cO t (Ls.getD i [])=0)/\∃ p y f,e=.returned (.tuple #[.pointer (some p),.nilIface])/\tk t Ls (am t) y f/\M w0 w' [bj fun w=>Au w p t Ls y f]):=by
 have j':=ht;obtain⟨ha,hb,hc,hd⟩:=ht;have _v:=hd.rs;have _w:=hd.len;have _g:=hl.rs;have _x:=hl.len;have _y:=_g.bT;have Y:=M.start w0;refine bB ao Tryz.func57 ?_;refine eB ?_;intro Q w Y;refine aU rfl (vY (j'.at Y)) ?_;rintro _ w' ⟨rfl,an⟩;refine aI ?_;clear an Y;intro Y;by_cases h1:bX t=0;rotate_left
 ·have l:nW t Ls=bX t:=aP h1
  rw[dq h1];refine W ?_;exact cX (v:=.pointer none) (v':=.iface 57 (E (bX t))) rfl rfl rfl (.inl ⟨by rw[l];exact h1,by rw[l,dq h1],Y.bb⟩)
 rw[gy h1];have I:=(rQ t).1 h1;have _z:=I.Z;refine W ?_;refine aU rfl (Ì (j'.at Y) (pj Y) (hl.at Y)) ?_;rintro _ w' ⟨⟨r,rfl,hr⟩,an⟩;refine aI ?_;clear an Y;intro Y;cases r;rotate_left
 ·have l:nW t Ls=2:=by unfold nW;rw[aH (by simp[h1]),aP (hr.1 rfl)]
  refine W ?_;exact cX (v:=.pointer none) (v':=.iface 57 (E 2)) rfl rfl rfl (.inl ⟨by rw[l];decide,by rw[l,dq dc],Y.bb⟩)
 have R:∀ i,i<Ls.length->fm t.vars (Ls.getD i []):=fun i hi=>by
  by_cases h:fm t.vars (Ls.getD i [])
  ·exact h
  have:=hr.2 ⟨i,hi,h⟩;cases this
 have R':¬∃ i,i<Ls.length/\¬fm t.vars (Ls.getD i []):=fun⟨i,hi,h⟩=>h (R i hi);refine aA ?_ ?_<;>intro h2
 ·have l:nW t Ls=5:=by unfold nW;rw[aH (by simp[h1]),aH R',aP U]
  refine W ?_;exact cX (v:=.pointer none) (v':=.iface 57 (E 5)) rfl rfl rfl (.inl ⟨by rw[l];decide,by rw[l,dq dc],Y.bb⟩)
 have l:nW t Ls=0:=by unfold nW;rw[aH (by simp[h1]),aH R',aH U]
 have V:Ls.length<=32:=U;have T':=hP I R V;refine lw ?_;intro s w Y;obtain⟨N,rfl⟩:=À s;rw[show ((vs.length:Int)).toNat=t.Z.length by omega,<-f_ t]at Y;refine cN [8,9,37,47] (G:=Nat) (fun k=>[(37,E k)]) (fun k w=>k<=t.Z.length/\M w0 w [X O 3 N (mq t k),ak Q 26 [a,b,c,d]]) (fun k=>t.Z.length-k) 0 (fun _=>rfl) ⟨rfl,au⟩ ⟨br _,Y⟩ ?_;clear Y;rintro σ k w ⟨hk,Y⟩;have _h:=e_ t k;refine aA ?_ ?_<;>intro h3
 ·have B:k<t.Z.length:=U
  have g:=hd.dK k B;have m:=g.one;have j:=g.aO;refine eB ?_;intro p w Y;rw[j,<-tC B,h_]at Y;exact⟨k+1,⟨rfl,au⟩,aV,⟨U,Y.bb⟩,U⟩
 have H':k=t.Z.length:=U;subst H';rw[g_]at Y;clear _h;have hC:=xP I;have _i:t.vars.length<=1099511627776:=by have:=I.vars;omega
 refine W ?_;refine aU rfl (nH (ha.at Y) _i) ?_;rintro _ w' ⟨g,rfl,an⟩;refine aL ?_;clear an Y;intro Y;have _j:=(Y.rs 0 rfl).one;refine Jc (v1:=g) rfl rfl (by simp only[ew,eN,_j];rfl) ?_;refine yj (vs:=[g,nS,nS]) rfl Y ?_;clear Y;intro pp w Y;refine W ?_;have m:M w0 w [X O 3 N (dH (am t) [] 0),bj (kR t Ls [] []),bj (q8 [] []),X ar 149 (nS) [],X ar 22 (nS) [],ak pp 155 [g,nS,nS],X O 3 g t.vars,ak Q 26 [a,b,c,d]]:=by
  have z:M w0 w [ak pp 155 [g,nS,nS],X O 3 g t.vars,X O 3 N (am t),ak Q 26 [a,b,c,d]]:=Y;have J':=M.pN (φ:=q8 [] []) (fun w=>⟨rfl,fun i hi=>absurd hi (dx _)⟩) (M.pN (φ:=kR t Ls [] []) (fun w=>⟨rfl,fun i hi=>absurd hi (dx _)⟩) ((z.nil (T:=ar) (e:=149)).nil (T:=ar) (e:=22)));rw[NX];exact J'.bb
 clear Y;refine cN [4,5,12,16,55,107] (G:=Nat × Value × Value × List Value × List Value × List J × List J) (fun x=>[(55,E x.1)]) (fun x w=>x.1<=Ls.length/\tk t (Ls.take x.1) (am t) x.2.2.2.2.2.1 x.2.2.2.2.2.2/\x.2.2.2.1.length=x.1/\x.2.2.2.2.1.length=x.1/\M w0 w [X O 3 N (dH (am t) x.2.2.2.2.2.2 x.1),bj (kR t Ls x.2.2.2.1 x.2.2.2.2.2.1),bj (q8 x.2.2.2.2.1 x.2.2.2.2.2.2),X ar 149 x.2.1 x.2.2.2.1,X ar 22 x.2.2.1 x.2.2.2.2.1,ak pp 155 [g,x.2.1,x.2.2.1],X O 3 g t.vars,ak Q 26 [a,b,c,d]]) (fun x=>Ls.length-x.1) (0,nS,nS,[],[],[],[]) (fun _=>rfl) ⟨rfl,au⟩ ⟨br _,tk.nil t _,rfl,rfl,m⟩ ?_;clear m;rintro _A ⟨k,H,K,n,o,y,f⟩ w ⟨hk,hR,V',_a,Y⟩;simp only at hk hR V' _a Y;have P':(Ls.take k).length=k:=by rw[jf];omega
 have _b:y.length=k:=by rw[hR.dl,P']
 have _c:f.length=k:=by rw[hR.pl,P']
 refine aA ?_ ?_<;>intro h4
 ·have B:k<Ls.length:=U
  have _d:=T' k B;have P:et t (dH (am t) f k):=hR.aO hC k U;refine W ?_;refine aU rfl (IZ (kv:=N) (vp:=cF ss k) (L:=(Ls.getD k [])) (cs:=dH (am t) f k) (j'.at Y) ((hl.dK k B).at Y) (bm Y)) ?_;rintro _ w' (⟨_k,_⟩|⟨_,_,_,_,q,D,rfl,hD,an⟩)
  ·exact absurd (P.BO I _d) _k
  rw[i_ P.len]at hD;refine aL ?_;clear an Y;intro Y;have _l:=IY _d hD;refine W ?_;refine aU rfl (US (MA Y) _l) ?_;rintro _ w' ⟨A,rfl,an⟩;refine aL ?_;clear an Y;intro Y;obtain⟨_m,_e⟩:=P.sub hD;have hm:(nG t (Ls.getD k []) D).l6.aT.length=t.Z.length:=by show (am t).length=_;simp[am]
  rw[hm]at Y;have _n:(nL (bM t (Ls.getD k [])) D t.Z.length).length=t.Z.length:=ZI;obtain⟨S,hS⟩:=À (nL (bM t (Ls.getD k [])) D t.Z.length);have _o:=P.len;have m:M w0 w' [X O 3 N (k9 (dH (am t) f k) S 0),X O 3 A S,rT q (nG t (Ls.getD k []) D),bj (kR t Ls n y),bj (q8 o f),X ar 149 H n,X ar 22 K o,ak pp 155 [g,H,K],X O 3 g t.vars,ak Q 26 [a,b,c,d]]:=by
   have z:M w0 w' [X O 3 A (nL (bM t (Ls.getD k [])) D t.Z.length),rT q (nG t (Ls.getD k []) D),X O 3 N (dH (am t) f k),bj (kR t Ls n y),bj (q8 o f),X ar 149 H n,X ar 22 K o,ak pp 155 [g,H,K],X O 3 g t.vars,ak Q 26 [a,b,c,d]]:=Y;rw[<-hS]at z;rw[UZ];exact z.bb
  clear Y;have Y:=m;clear m;rw[<-hS]at _m _e _n;have _B:=NW (dH (am t) f k) S 0;refine W ?_;refine cN [16,16,73,86] (G:=Nat) (fun j=>[(73,E j)]) (fun j w=>j<=t.Z.length/\M w0 w [X O 3 N (k9 (dH (am t) f k) S j),X O 3 A S,rT q (nG t (Ls.getD k []) D),bj (kR t Ls n y),bj (q8 o f),X ar 149 H n,X ar 22 K o,ak pp 155 [g,H,K],X O 3 g t.vars,ak Q 26 [a,b,c,d]]) (fun j=>t.Z.length-j) 0 (fun _=>rfl) ⟨rfl,au⟩ ⟨br _,Y⟩ ?_;clear Y;rintro _C j w ⟨hj,Y⟩;have _D:=NW (dH (am t) f k) S j;refine aA ?_ ?_<;>intro h5
  ·have C:j<t.Z.length:=U
   have _f:=_e j C;have _p:=P.at C;have F:=U1 (a:=dH (am t) f k) (b:=S) (j:=j) U;refine eQ ?_;intro w Y;rw[F,U2]at Y;exact⟨j+1,⟨rfl,au⟩,aV,⟨U,Y⟩,U⟩
  have _p:j=t.Z.length:=U;subst _p;have _q:dH (am t) (f++[S]) (k+1)=oE (dH (am t) f k) S:=by
   rw[I1 (by simp;omega),NY U,zG _c.symm]
  have _f:k9 (dH (am t) f k) S t.Z.length=oE (dH (am t) f k) S:=by rw[<-_o,U0]
  rw[_f,<-_q]at Y;have _r:tk t (Ls.take (k+1)) (am t) (y++[D]) (f++[S]):=by
   rw[eD [] B,hS];exact hR.fe (by rw[P'];exact hD)
  have _s:=(bm (s:=A) Y).eJ;refine W ?_;refine xL (.s [0,1,2,3,4,6,9,10,11,13,5,12] (.d 7 [5,12] (.d 8 [12] (.c 14 [5,12] (.s [15,16,17,18,19,20,21] (.j6 []))) (.d 14 [5,12] (.c 8 [12] (.s [15,16,17,18,19,20,21] (.j6 []))) (.stop))) (.d 14 [5,12] (.c 7 [5,12] (.c 8 [12] (.s [15,16,17,18,19,20,21] (.j6 [])))) (.stop)))) Y kr kr ?_;clear Y;intro w Y
  repeat' (first
   | refine dB ?_
   | (refine tG ?_;clear Y;intro w Y)
   | refine jF ?_ ?_
   | exact qt
   | (refine jG ar (x1:=.pointer (some q)) rfl rfl rfl (fX rfl) (fb _) Y ?_;clear Y;intro bq w Y)
   | (refine jG ar (x1:=A) rfl _s rfl (fX rfl) (fb _) Y ?_;clear Y;intro bs w Y)
   | (refine rV (s:=H) (s2:=bq) inferInstance rfl rfl (bm Y) rfl rfl (fun x hx v hv=>by rw[dp.1 hx]at hv;rw[dp.1 hv];rfl) (by simp only[length_cons,length_nil];omega) (by unfold bT;simp only[length_cons,length_nil];omega) Y ?_;clear Y;intro C w Y)
   | (refine rV (s:=K) (s2:=bs) inferInstance rfl rfl (bm Y) rfl rfl (fun x hx v hv=>by rw[dp.1 hx]at hv;rw[dp.1 hv];exact RS.one (bm (s:=A) Y)) (by simp only[length_cons,length_nil];omega) (by unfold bT;simp only[length_cons,length_nil];omega) Y ?_;clear Y;intro F w Y))
  all_goals (
   have z:M w0 w [X O 3 N (dH (am t) (f++[S]) (k+1)),X O 3 A S,rT q (nG t (Ls.getD k []) D),bj (kR t Ls n y),bj (q8 o f),X ar 149 C (n++[.pointer (some q)]),X ar 22 F (o++[A]),ak pp 155 [g,C,F],X O 3 g t.vars,ak Q 26 [a,b,c,d]]:=Y.tail.tail;have m:M w0 w [rT q (nG t (Ls.getD k []) D),bj (kR t Ls n y),X O 3 A S,bj (q8 o f),X O 3 N (dH (am t) (f++[S]) (k+1)),X ar 149 C (n++[.pointer (some q)]),X ar 22 F (o++[A]),ak pp 155 [g,C,F],X O 3 g t.vars,ak Q 26 [a,b,c,d]]:=z.bb;have J':=M.Ba (χ:=kR t Ls (n++[.pointer (some q)]) (y++[D])) (fun w h1 h2=>h2.fe (by rw[_b];exact h1)) (M.rd (Δ:=[rT q (nG t (Ls.getD k []) D)]) (φ:=fun w=>v6 w q (nG t (Ls.getD k []) D)) (fun _ _ h=>rD h 0 rfl) m);have _t:M w0 w [X O 3 A S,bj (q8 o f),bj (kR t Ls (n++[.pointer (some q)]) (y++[D])),X O 3 N (dH (am t) (f++[S]) (k+1)),X ar 149 C (n++[.pointer (some q)]),X ar 22 F (o++[A]),ak pp 155 [g,C,F],X O 3 g t.vars,ak Q 26 [a,b,c,d]]:=J'.bb;have _u:=M.Ba (χ:=q8 (o++[A]) (f++[S])) (fun w h1 h2=>h2.fe h1) (M.rd (Δ:=[X O 3 A S]) (φ:=fun w=>RS O w A S) (fun _ _ h=>h.rs 0 rfl) _t)
   exact⟨(k+1,C,F,n++[.pointer (some q)],o++[A],y++[D],f++[S]),⟨rfl,au⟩,aV,⟨B,_r,by simp[V'],by simp[_a],_u.bb⟩,by simp only;omega⟩)
 have H':k=Ls.length:=U;subst H';rw[lL]at hR;refine W ?_;have m:M w0 w [bj (kR t Ls n y),bj (q8 o f),X ar 149 H n,X ar 22 K o,ak pp 155 [g,H,K],X O 3 g t.vars]:=Y.bb;have z:=M.rd (Δ:=[bj (kR t Ls n y),bj (q8 o f),X ar 149 H n,X ar 22 K o,ak pp 155 [g,H,K],X O 3 g t.vars]) (Γ:=[]) (φ:=fun w=>Au w pp t Ls y f) (fun _ w h=>⟨g,H,K,n,o,h.gB 4 rfl,h.rs 5 rfl,h.rs 2 rfl,h.cU 0 rfl,h.rs 3 rfl,h.cU 1 rfl⟩) m;exact cX (v:=.pointer (some pp)) (v':=.nilIface) rfl rfl rfl (.inr ⟨l,I,V,T',pp,y,f,rfl,hR,z⟩)
end
end Go.Proofs.YtmapkjoefdgjfaaGreatDoor
