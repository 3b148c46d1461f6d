/- Several texts. -/
import Derived.Test.YtmapkjoefdgjfaaGreatDoorMW19E
set_option linter.unusedSimpArgs false
set_option linter.unusedVariables false
set_option linter.defProp false
set_option maxRecDepth 8000
set_option maxHeartbeats 16000000
open List Nat
namespace Go.Proofs.YtmapkjoefdgjfaaGreatDoor
open Go.Sl
variable {t:aa}{v i k u:Nat}{w0 w:World}{a b c d:Value}{vs:List iW}{ss:List Value}
section
open Go.Sl Go
attribute [local irreducible] vc opsW opsD opV opW PureV ReadV Thn Blk
def qx (t:aa)(k:Nat)(v u:Nat):Prop:=∃ op,op<k/\zh (t.M.getD op bj) (u:Int) (v:Int)
def sS (o:km)(j:Nat)(v u:Nat):Prop:=∃ i,i<j/\(o.aJ.getD i bE).var=v/\(jt o.pre u\/jt (o.aJ.getD i bE).bO u\/∃ d∈o.aJ,d.var=u)
def ϑ:qx t (k+1) v u↔qx t k v u\/zh (t.M.getD k bj) (u:Int) (v:Int):=BA
def a_ {o:km}{j:Nat}:sS o (j+1) v u↔sS o j v u\/((o.aJ.getD j bE).var=v/\(jt o.pre u\/jt (o.aJ.getD j bE).bO u\/∃ d∈o.aJ,d.var=u)):=BA
def b_ {o:km}:sS o o.aJ.length v u↔zh o u v:=by
 constructor
 ·rintro⟨i,f,h1,g⟩
  exact⟨_,cH bE f,h1,g⟩
 rintro⟨e,he,h1,g⟩;obtain⟨i,f,rfl⟩:=fJ he;exact⟨i,f,by rw[am f];exact⟨h1,g⟩⟩
def T9 {l:List bp}{u:Int}:jt l u↔∃ i,i<l.length/\(l.getD i aq.dflt).var=u:=by
 constructor
 ·rintro⟨f,h,e⟩
  obtain⟨i,g,rfl⟩:=fJ h;exact⟨i,g,by rw[am g];exact e⟩
 rintro⟨i,g,e⟩;exact⟨_,cH aq.dflt g,e⟩
def c_ {l:List kP}{u:Int}:(∃ d∈l,d.var=u)↔∃ i,i<l.length/\(l.getD i bE).var=u:=by
 constructor
 ·rintro⟨f,h,e⟩
  obtain⟨i,g,rfl⟩:=fJ h;exact⟨i,g,by rw[am g];exact e⟩
 rintro⟨i,g,e⟩;exact⟨_,cH bE g,e⟩
def Ua {B E_ L F:Prop}:(B\/(E_/\L))\/(E_/\F)↔B\/(E_/\(L\/F)) :=
 ⟨fun h=>h.elim (fun h=>h.elim .inl fun h=>.inr ⟨h.1,.inl h.2⟩) fun h=>.inr ⟨h.1,.inr h.2⟩,fun h=>h.elim (fun h=>.inl (.inl h)) fun⟨h1,e⟩=>e.elim (fun h=>.inl (.inr ⟨h1,h⟩)) fun h=>.inr ⟨h1,h⟩⟩
def d_ {K D E_ f P g X':Prop}(e:E_↔f):((K\/D)\/(E_/\(P\/g)))\/(E_/\X')↔K\/D\/(f/\(P\/g\/X')):=by
 rw[Ua,or_assoc,<-e,or_assoc]
def e_ (ht:bn w0 a b c d vs t)(I:aG t) :
  Calls ai 134 #[.agg #[a,b,c,d]] w0 fun e w'=>∃ out ss M',e=.returned out/\MI M' t.vars.length (fun v u=>rj t (u:Int) (v:Int))/\Z w0 w' [aj ah 4 ss M',X ap 140 out ss]:=by
 obtain⟨ha,hb,hc,hd⟩:=ht;have _c:=hd.rs;have _q:=hd.len;have _r:=_c.bU;have _s:=ha.bU;have hV:=I.vars;have Y:=Z.start w0;refine bA an Tryz.func134 ?_
 repeat (first|refine du ?_|(refine gX ?_;clear Y;intro p w Y)|(refine fA ?_;clear Y;intro s w Y))
 obtain⟨B,rfl⟩:=À p;obtain⟨out,rfl⟩:=À s;have Y:=Y.gI (T:=ah) (e:=4) t.vars.length;rw[<-OH]at Y;obtain⟨ss,V⟩:=À (replicate t.vars.length (nS));have F:ss.length=t.vars.length:=by rw[V];simp
 have g:Z w0 w [aj ah 4 ss (su t.vars.length 0),X ap 140 out ss,ak B 26 [a,b,c,d]]:=by rw[V];exact Y
 clear Y V;have _d:(replicate (↑t.vars.length:Int).toNat (nS)).length=t.vars.length:=sm;refine dQ [4,4,22,32] (G:=Nat) (H:=List Value) (fun k _=>[(22,E k)]) (fun k ss w=>k<=t.vars.length/\ss.length=t.vars.length/\Z w0 w [aj ah 4 ss (su t.vars.length k),X ap 140 out ss,ak B 26 [a,b,c,d]]) (fun k _=>t.vars.length-k) 0 ss (fun _ _=>rfl) ⟨rfl,az⟩ ⟨bu _,F,g⟩ ?_;clear g F ss;rintro σ k ss w ⟨hk,F,Y⟩;refine aB ?_ ?_<;>intro h1
 ·refine l7 ?_;clear Y;intro s w Y
  replace Y:=Z.rL (i:=k) (by rw[OG];omega) Y;rw[jo,OJ]at Y;exact⟨k+1,_,⟨rfl,az⟩,aU,⟨U,by rw[gY];exact F,Y⟩,U⟩
 have j':k=t.vars.length:=U;subst j';rw[OI]at Y;refine O ?_;clear _d h1;refine dQ [6,6,8,8,10,10,12,12,14,14,36,90] (G:=Nat) (H:=List (List Bool)) (fun k _=>[(36,E k)]) (fun k M' w=>k<=t.M.length/\MI M' t.vars.length (qx t k)/\Z w0 w [aj ah 4 ss M',X ap 140 out ss,ak B 26 [a,b,c,d]]) (fun k _=>t.M.length-k) 0 _ (fun _ _=>rfl) ⟨rfl,az⟩ ⟨bu _,(MI.rep t.vars.length).congr fun v u _ _=>⟨False.elim,fun⟨op,h,_⟩=>absurd h (dr _)⟩,Y⟩ ?_;clear Y hk;rintro σ k M' w ⟨hk,n,Y⟩;refine aB ?_ ?_<;>intro h1
 ·have P':k<t.M.length:=U
  have H':=hd.dJ k P';have _l:=H'.one;have C:=I.op k P';have y:=H'.pre;have _e:=y.bU;obtain⟨es,K⟩:=H'.aJ;have R':=K.rs;have _m:=K.len;have _n:=R'.bU;refine eE ?_;clear Y;intro P w Y;have g:Z w0 w [aj ah 4 ss M',X ap 140 out ss,ak P 44 (cd.enc (au cd vs k)),ak B 26 [a,b,c,d]]:=Y.aY;clear Y;refine dQ [8,8,10,10,12,12,14,14,43,89] (G:=Nat) (H:=List (List Bool)) (fun j _=>[(43,E j)]) (fun j M' w=>j<=(t.M.getD k bj).aJ.length/\MI M' t.vars.length (fun v u=>qx t k v u\/sS (t.M.getD k bj) j v u)/\Z w0 w [aj ah 4 ss M',X ap 140 out ss,ak P 44 (cd.enc (au cd vs k)),ak B 26 [a,b,c,d]]) (fun j _=>(t.M.getD k bj).aJ.length-j) 0 M' (fun _ _=>rfl) ⟨rfl,az⟩ ⟨bu _,n.congr fun v u _ _=>⟨.inl,fun h=>h.elim id fun⟨i,h,_⟩=>absurd h (dr _)⟩,g⟩ ?_;clear g n M';rintro _f j M' w ⟨hj,n,Y⟩;refine aB ?_ ?_<;>intro Q
  ·have T':j<(t.M.getD k bj).aJ.length:=U
   have J':=K.dJ j T';have _t:=J'.one;have _u:=J'.var;have L:=J'.bO;have _o:=L.bU;have _v:=L.one;have _w:=y.one;have R:=C.ff j T';have _x:=tO R;refine eE ?_;clear Y;intro pe w Y
   repeat refine du ?_
   have c1:=y.et;have c2:=L.et;have z1:(au cd vs k).pre.cells.size=1:=by have:=qy List.length c1;simpa using this
   have z2:(au aV es j).bO.cells.size=1:=by have:=qy List.length c2;simpa using this
   refine ya (T:=ap) [(au cd vs k).pre,(au aV es j).bO] [(au cd vs k).pre,(au aV es j).bO] rfl (by simp[c1,c2,ap]) (by simp[z1,z2]) rfl rfl (fY rfl) (fe _) (fY rfl) Y ?_;clear Y;intro ls w Y;refine O ?_;have g:Z w0 w [aj ah 4 ss M',X ap 140 out ss,X ap 23 ls [(au cd vs k).pre,(au aV es j).bO],ak pe 61 (aV.enc (au aV es j)),ak P 44 (cd.enc (au cd vs k)),ak B 26 [a,b,c,d]]:=Y.aY;clear Y;obtain⟨o,V'⟩:∃ o:Nat,((t.M.getD k bj).aJ.getD j bE).var=(o:Int):=⟨((t.M.getD k bj).aJ.getD j bE).var.toNat,U⟩
   have z:o<t.vars.length:=U;refine dQ [10,10,12,12,53,72] (G:=Nat) (H:=List (List Bool)) (fun m _=>[(53,E m)]) (fun m M' w=>m<=2/\MI M' t.vars.length (fun v u=>(qx t k v u\/sS (t.M.getD k bj) j v u)\/(v=o/\((0<m/\jt (t.M.getD k bj).pre (u:Int))\/(1<m/\jt ((t.M.getD k bj).aJ.getD j bE).bO (u:Int)))))/\Z w0 w [aj ah 4 ss M',X ap 140 out ss,X ap 23 ls [(au cd vs k).pre,(au aV es j).bO],ak pe 61 (aV.enc (au aV es j)),ak P 44 (cd.enc (au cd vs k)),ak B 26 [a,b,c,d]]) (fun m _=>2-m) 0 M' (fun _ _=>rfl) ⟨rfl,az⟩ ⟨bu _,n.congr fun v u _ _=>⟨.inl,fun h=>h.elim id fun hh=>hh.2.elim (fun h=>absurd h.1 (dr _)) fun h=>absurd h.1 (dr _)⟩,g⟩ ?_;clear g n M';rintro _y m M' w ⟨hm,n,Y⟩;refine aB ?_ ?_<;>intro h3
   ·have _a:m<2:=by simp at h3;omega
    obtain⟨A,fv,_g,_h,S⟩:∃ A fv,cG [(au cd vs k).pre,(au aV es j).bO] m=fv/\RS aq w0 fv A/\(∀ x∈A,bN t.vars x)/\∀ u:Nat,(((0<m+1/\jt (t.M.getD k bj).pre (u:Int))\/(1<m+1/\jt ((t.M.getD k bj).aJ.getD j bE).bO (u:Int)))↔(((0<m/\jt (t.M.getD k bj).pre (u:Int))\/(1<m/\jt ((t.M.getD k bj).aJ.getD j bE).bO (u:Int))))\/jt A u):=by
     have:m=0\/m=1:=U;rcases this with rfl|rfl
     ·exact⟨(t.M.getD k bj).pre,_,by rw[l9];rfl,y,yB C.pre,fun u=>sm⟩
     exact⟨((t.M.getD k bj).aJ.getD j bE).bO,_,by rw[l9];rfl,L,yB R.1,fun u=>sm⟩
    have _p:=_h.bU;refine O ?_;rw[_g];obtain⟨_i,S⟩:=S;refine O ?_;refine dQ [12,12,59,71] (G:=Nat) (H:=List (List Bool)) (fun i _=>[(59,E i)]) (fun i M' w=>i<=A.length/\MI M' t.vars.length (fun v u=>((qx t k v u\/sS (t.M.getD k bj) j v u)\/(v=o/\((0<m/\jt (t.M.getD k bj).pre (u:Int))\/(1<m/\jt ((t.M.getD k bj).aJ.getD j bE).bO (u:Int)))))\/(v=o/\∃ i',i'<i/\(A.getD i' aq.dflt).var=(u:Int)))/\Z w0 w [aj ah 4 ss M',X ap 140 out ss,X ap 23 ls [(au cd vs k).pre,(au aV es j).bO],ak pe 61 (aV.enc (au aV es j)),ak P 44 (cd.enc (au cd vs k)),ak B 26 [a,b,c,d]]) (fun i _=>A.length-i) 0 M' (fun _ _=>rfl) ⟨rfl,az⟩ ⟨bu _,n.congr fun v u _ _=>⟨.inl,fun h=>h.elim id fun⟨_,i',h,_⟩=>absurd h (dr _)⟩,Y⟩ ?_;clear Y n M';rintro _j i M' w ⟨hi,n,Y⟩;refine aB ?_ ?_<;>intro h4
    ·have q:i<A.length:=U
     have D:=_i _ (cH aq.dflt q);unfold bN at D;have hlen:=n.len;have _k:o<M'.length:=U;have N:=n.row o z;have r:(au aV es j).var.toNat=o:=U;refine db ?_;clear Y;intro p w Y;have g:Z w0 w [aj ah 4 ss M',X ap 140 out ss,ak p 63 (aq.enc (A.getD i aq.dflt)),X ap 23 ls [(au cd vs k).pre,(au aV es j).bO],ak pe 61 (aV.enc (au aV es j)),ak P 44 (cd.enc (au cd vs k)),ak B 26 [a,b,c,d]]:=Y.aY;clear Y;have _b:=g.cb;have Y:=g.gV (i:=(au aV es j).var.toNat) U;clear g;rw[<-r]at N;refine fm ?_;clear Y;intro w Y;replace Y:=Z.mF (i:=(au aV es j).var.toNat) U U Y;rw[r]at Y;change Z w0 w (aj ah 4 ss (lg M' o (A.getD i aq.dflt).var.toNat true)::_) at Y;refine⟨i+1,lg M' o (A.getD i aq.dflt).var.toNat true,⟨rfl,az⟩,aU,⟨U,?_,Y.aY⟩,U⟩;exact(n.vK (v:=o) (u:=(A.getD i aq.dflt).var.toNat) z U).congr fun v u _ _=>by
      rw[BA];refine or_assoc.trans (or_congr x6 ?_);exact⟨fun h=>h.elim (fun h=>⟨h.1,.inl h.2⟩) fun h=>⟨h.1,.inr U⟩,fun⟨h1,Q⟩=>Q.elim (fun h=>.inl ⟨h1,h⟩) fun h=>.inr ⟨h1,U⟩⟩
    have D:i=A.length:=U;subst D;refine O ?_;exact⟨m+1,M',⟨rfl,az⟩,aU,⟨U,n.congr fun v u _ _=>by rw[S u,T9 (l:=A)];exact Ua,Y⟩,U⟩
   have _a:m=2:=by simp at h3;omega
   subst _a;have A:MI M' t.vars.length (fun v u=>(qx t k v u\/sS (t.M.getD k bj) j v u)\/(v=o/\(jt (t.M.getD k bj).pre (u:Int)\/jt ((t.M.getD k bj).aJ.getD j bE).bO (u:Int)))):=n.congr fun v u _ _=>sm;clear n;refine O ?_;refine dQ [14,14,76,88] (G:=Nat) (H:=List (List Bool)) (fun i _=>[(76,E i)]) (fun i M' w=>i<=(t.M.getD k bj).aJ.length/\MI M' t.vars.length (fun v u=>((qx t k v u\/sS (t.M.getD k bj) j v u)\/(v=o/\(jt (t.M.getD k bj).pre (u:Int)\/jt ((t.M.getD k bj).aJ.getD j bE).bO (u:Int))))\/(v=o/\∃ i',i'<i/\((t.M.getD k bj).aJ.getD i' bE).var=(u:Int)))/\Z w0 w [aj ah 4 ss M',X ap 140 out ss,ak pe 61 (aV.enc (au aV es j)),ak P 44 (cd.enc (au cd vs k)),ak B 26 [a,b,c,d]]) (fun i _=>(t.M.getD k bj).aJ.length-i) 0 M' (fun _ _=>rfl) ⟨rfl,az⟩ ⟨bu _,A.congr fun v u _ _=>⟨.inl,fun h=>h.elim id fun⟨_,i',h,_⟩=>absurd h (dr _)⟩,Y.aY⟩ ?_;clear Y A M';rintro _j i M' w ⟨hi,n,Y⟩;refine aB ?_ ?_<;>intro h4
   ·have q:i<(t.M.getD k bj).aJ.length:=U
    have S:=K.dJ i q;have _g:=S.one;have _h:=S.var;have _i:=tO (C.ff i q);have hlen:=n.len;have _k:o<M'.length:=U;have N:=n.row o z;have r:(au aV es j).var.toNat=o:=U;refine db ?_;clear Y;intro p w Y;have g:Z w0 w [aj ah 4 ss M',X ap 140 out ss,ak p 61 (aV.enc (au aV es i)),ak pe 61 (aV.enc (au aV es j)),ak P 44 (cd.enc (au cd vs k)),ak B 26 [a,b,c,d]]:=Y.aY;clear Y;have _b:=g.cb;have Y:=g.gV (i:=(au aV es j).var.toNat) U;clear g;rw[<-r]at N;refine fm ?_;clear Y;intro w Y;replace Y:=Z.mF (i:=(au aV es j).var.toNat) U U Y;rw[r]at Y;change Z w0 w (aj ah 4 ss (lg M' o (au aV es i).var.toNat true)::_) at Y;refine⟨i+1,lg M' o (au aV es i).var.toNat true,⟨rfl,az⟩,aU,⟨U,?_,Y.aY⟩,U⟩;exact(n.vK (v:=o) (u:=(au aV es i).var.toNat) z U).congr fun v u _ _=>by
     rw[BA];refine or_assoc.trans (or_congr x6 ?_);exact⟨fun h=>h.elim (fun h=>⟨h.1,.inl h.2⟩) fun h=>⟨h.1,.inr U⟩,fun⟨h1,Q⟩=>Q.elim (fun h=>.inl ⟨h1,h⟩) fun h=>.inr ⟨h1,U⟩⟩
   have D:i=(t.M.getD k bj).aJ.length:=U;subst D;refine O ?_;exact⟨j+1,M',⟨rfl,az⟩,aU,⟨U,n.congr fun v u _ _=>by rw[a_,V',c_];exact d_ U,Y.aY⟩,U⟩
  have o:j=(t.M.getD k bj).aJ.length:=U;subst o;refine O ?_;exact⟨k+1,M',⟨rfl,az⟩,aU,⟨U,n.congr fun v u _ _=>by rw[ϑ,b_],Y.aY⟩,U⟩
 have j':k=t.M.length:=U;subst j';have j:=n.len;have f:=Y.cb;have A:MI M' t.vars.length (fun v u=>qx t t.M.length v u/\¬(v<0/\u=v)):=n.congr fun v u _ _=>⟨fun h=>⟨h,fun h=>absurd h.1 (dr _)⟩,fun h=>h.1⟩
 clear n;refine O ?_;refine dQ [15,15,93,102] (G:=Nat) (H:=List (List Bool)) (fun i _=>[(93,E i)]) (fun i M' w=>i<=t.vars.length/\MI M' t.vars.length (fun v u=>qx t t.M.length v u/\¬(v<i/\u=v))/\Z w0 w [aj ah 4 ss M',X ap 140 out ss,ak B 26 [a,b,c,d]]) (fun i _=>t.vars.length-i) 0 M' (fun _ _=>rfl) ⟨rfl,az⟩ ⟨bu _,A,Y⟩ ?_;clear Y A j f M';rintro _f i M' w ⟨hi,n,Y⟩;have j:=n.len;have f:=Y.cb;refine aB ?_ ?_<;>intro o
 ·have q:i<t.vars.length:=U
  have N:=n.row i q;replace Y:=Y.gV (i:=i) U;refine fm ?_;clear Y;intro w Y;replace Y:=Z.mF (i:=i) U U Y;refine⟨i+1,_,⟨rfl,az⟩,aU,⟨U,?_,Y⟩,U⟩
  exact(n.MV (v:=i) (u:=i) q q).congr fun v u _ _=>⟨fun h=>⟨h.1.1,fun hh=>by
   by_cases e:v=i
   ·exact h.2 ⟨e,U⟩
   exact h.1.2 ⟨U,hh.2⟩⟩,fun h=>⟨⟨h.1,fun hh=>h.2 ⟨U,hh.2⟩⟩,fun hh=>h.2 ⟨U,U⟩⟩⟩
 have D:i=t.vars.length:=U;subst D;refine O ?_;refine bf (v:=out) rfl rfl ⟨out,ss,M',rfl,n.congr fun v u hv hu=>?_,Y.aY⟩;constructor
 ·rintro⟨h1,Q⟩
  exact⟨fun e=>Q ⟨hv,U⟩,h1⟩
 rintro⟨h1,Q⟩;exact⟨Q,fun hh=>h1 U⟩
def f_ (t:aa)(u:Nat):fu t u 0=[]:=vt (cD _)
def g_ (h:rj t (u:Int) (v:Int)):fu t u (v+1)=fu t u v++[⟨(u:Int),(v:Int),1⟩]:=by
 unfold fu;rw[q8 (bu _),aM h]
def h_ (h:¬rj t (u:Int) (v:Int)):fu t u (v+1)=fu t u v:=by
 unfold fu;rw[q8 (bu _),aC h,fS]
def i_ (t:aa)(u:Nat):bz t (u+1)=bz t u++fu t u t.vars.length:=by
 unfold bz;rw[q8 (bu _)]
def j_ (C:bn w0 a b c d vs t)(I:aG t) :
  Calls ai 99 #[.agg #[a,b,c,d]] w0 fun e w'=>∃ f,e=.returned (.tuple #[f,.nilIface])/\Z w0 w' [X bC 181 f (bz t t.vars.length)]:=by
 have n:=C;obtain⟨L,x,hc,hd⟩:=C;have N:=L.bU;have P:=I.vars;have Y:=Z.start w0;refine bA an Tryz.func99 ?_;refine eE ?_;intro r w Y;refine aL rfl (tC (n.at Y)) ?_;rintro _ w' ⟨rfl,al⟩;refine aA ?_;clear al Y;intro Y;rw[fK ((oz t).2 I)];refine O ?_;refine aL rfl (e_ (n.at Y) I) ?_;rintro _ w' ⟨out,ss,m,rfl,z,al⟩;refine iM ?_;clear al Y;intro Y;have Q:=z.len;refine O ?_;have j:Z w0 w' [X bC 181 (nS) (bz t 0),aj ah 4 ss m,X ap 140 out ss,ak r 26 [a,b,c,d]]:=Y.nil (T:=bC) (e:=181);clear Y;refine dQ [6,8,19,42] (G:=Nat) (H:=Value) (fun u f=>[(19,E u),(6,f)]) (fun u f w=>u<=t.vars.length/\Z w0 w [X bC 181 f (bz t u),aj ah 4 ss m,X ap 140 out ss,ak r 26 [a,b,c,d]]) (fun u _=>t.vars.length-u) 0 (nS) (fun _ _=>rfl) ⟨rfl,rfl,az⟩ ⟨bu _,j⟩ ?_;clear j;rintro σ u f w ⟨hu,Y⟩;refine aB ?_ ?_<;>intro h1
 ·have A:u<t.vars.length:=U
  have R:=OL t u;have D:u*t.vars.length<=64*64:=zX U P;refine O ?_;have j:Z w0 w [X bC 181 f (bz t u++fu t u 0),aj ah 4 ss m,X ap 140 out ss,ak r 26 [a,b,c,d]]:=by rw[f_,fS];exact Y
  clear Y;refine dQ [6,6,8,8,25,41] (G:=Nat) (H:=Value) (fun v f=>[(25,E v),(6,f)]) (fun v f w=>v<=t.vars.length/\Z w0 w [X bC 181 f (bz t u++fu t u v),aj ah 4 ss m,X ap 140 out ss,ak r 26 [a,b,c,d]]) (fun v _=>t.vars.length-v) 0 f (fun _ _=>rfl) ⟨rfl,rfl,az⟩ ⟨bu _,j⟩ ?_;clear j;rintro S v l w ⟨hv,Y⟩;have V:=Y.tail.cb;refine aB ?_ ?_<;>intro h2
  ·have o:v<t.vars.length:=U
   have q:=Y.tail.row (i:=v) U;have j':=z.row v o;have B:=z.dJ v u o A;have F:=OK t u v;have K:(bz t u++fu t u v).length<=8192:=by rw[length_append];omega
   refine oC ?_;have g:(m.getD v []).getD u ah.dflt=true↔rj t (u:Int) (v:Int):=B
   cases x:(m.getD v []).getD u ah.dflt with
   | false =>
    rw[x]at g;refine O ?_
    exact⟨v+1,l,⟨rfl,rfl,az⟩,aU,⟨U,by rw[h_ (fun h=>by have:=g.2 h;cases this)];exact Y⟩,U⟩
   | true =>
    rw[x]at g;refine O ?_;refine jK bC (x1:=⟨(u:Int),(v:Int),1⟩) rfl rfl rfl (fY rfl) (fe _) Y ?_;clear Y q;intro bs w Y
    refine q7 (s:=l) (s2:=bs) inferInstance rfl rfl (bk Y) rfl rfl (fun y hy v hv=>by
     rw[dp.1 hy]at hv;simp only[bC,ee,fI,pP]at hv
     rcases hv with rfl|rfl|rfl<;>rfl) (by simp only[length_cons,length_nil];omega) (by unfold bU;simp only[length_cons,length_nil];omega) Y ?_
    clear Y;intro s' w Y;refine O ?_;refine⟨v+1,s',⟨rfl,rfl,az⟩,aU,⟨U,?_⟩,U⟩;rw[g_ (g.1 rfl),<-fL];exact Y.tail
  have g:v=t.vars.length:=U;subst g;rw[<-i_]at Y;refine O ?_;exact⟨u+1,l,⟨rfl,rfl,az⟩,aU,⟨U,Y⟩,U⟩
 have g:u=t.vars.length:=U;subst g;refine O ?_;exact cR (v:=f) (v':=.nilIface) rfl rfl rfl ⟨f,rfl,Y.aY⟩
def lJ (t:aa)(v:Nat):Prop:=∃ f∈t.aH,f.var=(v:Int)
def k_:lJ t v↔∃ i,i<t.aH.length/\(t.aH.getD i aq.dflt).var=(v:Int):=T9
def Ub {a:Nat}:mV t [(a:Int)]↔lJ t a:=by
 constructor
 ·rintro⟨⟨v,hv,h⟩,_⟩
  rw[dp.1 hv]at h;exact h
 exact fun h=>⟨⟨a,mem_singleton_self _,h⟩,VZ⟩
def l_ {a b:Nat}:mV t [(a:Int),(b:Int)]↔(lJ t a\/lJ t b)/\dO t a b:=by
 unfold mV;rw[V0];refine and_congr ?_ x6;unfold xc lJ;simp[or_and_right,exists_or]
def m_ {a b c:Nat}:mV t [(a:Int),(b:Int),(c:Int)]↔(lJ t a\/lJ t b\/lJ t c)/\((dO t a b/\dO t b c)\/(dO t a b/\dO t a c)\/(dO t a c/\dO t b c)):=by
 unfold mV;rw[V1];refine and_congr ?_ x6;unfold xc lJ;simp[or_and_right,exists_or]
def n_ {x y:Nat}(hx:x<t.vars.length)(j:y<t.vars.length):(∃ i,i<(bz t t.vars.length).length/\(((bz t t.vars.length).getD i bC.dflt).bh=(x:Int)/\((bz t t.vars.length).getD i bC.dflt).dst=(y:Int)\/((bz t t.vars.length).getD i bC.dflt).dst=(x:Int)/\((bz t t.vars.length).getD i bC.dflt).bh=(y:Int)))↔dO t x y:=by
 constructor
 ·rintro⟨i,f,h⟩
  obtain⟨u,v,_,_,l,e⟩:=Gf.1 (cH bC.dflt f);rw[e]at h;simp only at h;rcases h with ⟨h1,g⟩|⟨h1,g⟩
  ·exact .inl (by rw[<-h1,<-g];exact l)
  exact .inr (by rw[<-h1,<-g];exact l)
 rintro (h|h)
 ·obtain⟨i,f,e⟩:=fJ (Gf.2 ⟨x,y,hx,j,h,rfl⟩)
  exact⟨i,f,by rw[am f,e];exact .inl ⟨rfl,rfl⟩⟩
 obtain⟨i,f,e⟩:=fJ (Gf.2 ⟨y,x,j,hx,h,rfl⟩);exact⟨i,f,by rw[am f,e];exact .inr ⟨rfl,rfl⟩⟩
def eU (size:Int):Nat:=(max 1 (min size 3)).toNat
def o_ (size:Int):1<=eU size/\eU size<=3:=by unfold eU;omega
def p_ {size:Int}(ht:bn w0 a b c d vs t)(I:aG t)(V:t.vars.length<=12) :
  Calls ai 79 #[.agg #[a,b,c,d],E size] w0 fun e w'=>∃ m os,e=.returned (.tuple #[m,.nilIface])/\Z w0 w' [aj W 3 os (fM t (eU size)),X ap 22 m os]:=by
 have _s:=ht;obtain⟨ha,hb,hc,hd⟩:=ht;have _y:=ha.bU;have _z:=hc.bU;have Y:=Z.start w0;refine bA an Tryz.func79 ?_;refine eE ?_;clear Y;intro r w Y;refine aL rfl (j_ (_s.at Y) I) ?_;rintro _ w' ⟨av,rfl,al⟩;refine aI ?_;clear al Y;intro Y;have _A:=OL t t.vars.length;have _v:t.vars.length*t.vars.length<=12*12:=zX V V;have _f:∀ i,i<(bz t t.vars.length).length->(0<=((bz t t.vars.length).getD i bC.dflt).bh/\((bz t t.vars.length).getD i bC.dflt).bh<t.vars.length)/\(0<=((bz t t.vars.length).getD i bC.dflt).dst/\((bz t t.vars.length).getD i bC.dflt).dst<t.vars.length):=fun i hi=>by
  obtain⟨u,v,hu,hv,_,e⟩:=Gf.1 (cH bC.dflt hi);rw[e];simp only;omega
 refine l7 ?_;clear Y;intro s w Y;obtain⟨out,rfl⟩:=À s;have Y:=Y.gI (T:=ah) (e:=4) t.vars.length;rw[<-OH]at Y;obtain⟨ss,R'⟩:=À (replicate t.vars.length (nS));have j':ss.length=t.vars.length:=by rw[R'];simp
 have f:Z w0 w [aj ah 4 ss (su t.vars.length 0),X ap 140 out ss,X bC 181 av (bz t t.vars.length),ak r 26 [a,b,c,d]]:=by rw[R'];exact Y
 clear Y R';have T':(replicate (↑t.vars.length:Int).toNat (nS)).length=t.vars.length:=sm;refine dQ [10,10,39,47] (G:=Nat) (H:=List Value) (fun k _=>[(39,E k)]) (fun k ss w=>k<=t.vars.length/\ss.length=t.vars.length/\Z w0 w [aj ah 4 ss (su t.vars.length k),X ap 140 out ss,X bC 181 av (bz t t.vars.length),ak r 26 [a,b,c,d]]) (fun k _=>t.vars.length-k) 0 ss (fun _ _=>rfl) ⟨rfl,az⟩ ⟨bu _,j',f⟩ ?_;clear f j' ss;rintro σ k ss w ⟨hk,j',Y⟩;refine aB ?_ ?_<;>intro h1
 ·refine l7 ?_;clear Y;intro s w Y
  replace Y:=Z.rL (i:=k) (by rw[OG];omega) Y;rw[jo,OJ]at Y;exact⟨k+1,_,⟨rfl,az⟩,aU,⟨U,by rw[gY];exact j',Y⟩,U⟩
 have B:k=t.vars.length:=U;subst B;rw[OI]at Y;clear T' h1;refine O ?_;refine dQ [12,12,50,70] (G:=Nat) (H:=List (List Bool)) (fun k _=>[(50,E k)]) (fun k n w=>k<=(bz t t.vars.length).length/\MI n t.vars.length (fun x y=>(∃ i,i<k/\(((bz t t.vars.length).getD i bC.dflt).bh=(x:Int)/\((bz t t.vars.length).getD i bC.dflt).dst=(y:Int)\/((bz t t.vars.length).getD i bC.dflt).dst=(x:Int)/\((bz t t.vars.length).getD i bC.dflt).bh=(y:Int))))/\Z w0 w [aj ah 4 ss n,X ap 140 out ss,X bC 181 av (bz t t.vars.length),ak r 26 [a,b,c,d]]) (fun k _=>(bz t t.vars.length).length-k) 0 _ (fun _ _=>rfl) ⟨rfl,az⟩ ⟨bu _,(MI.rep t.vars.length).congr fun v u _ _=>⟨False.elim,fun⟨op,h,_⟩=>absurd h (dr _)⟩,Y⟩ ?_;clear Y hk;rintro σ k n w ⟨hk,hM,Y⟩;refine aB ?_ ?_<;>intro h1
 ·have j:k<(bz t t.vars.length).length:=U
  have D:=_f k j;have hlen:=hM.len;have A:=Y.cb;refine db ?_;clear Y;intro p w Y;refine fz (pl [0,1,2,3,4,5,6,7,8,9,10,11,12,13,14,15] (.cI 13::pl [16,17] [])) Y kr ?_;clear Y;intro w Y;refine O ?_;have f:Z w0 w [aj ah 4 ss n,X ap 140 out ss,ak p 181 (bC.enc ((bz t t.vars.length).getD k bC.dflt)),X bC 181 av (bz t t.vars.length),ak r 26 [a,b,c,d]]:=Y.aY;clear Y;have _a:=hM.row ((bz t t.vars.length).getD k bC.dflt).bh.toNat U;have Y:=f.gV (i:=((bz t t.vars.length).getD k bC.dflt).bh.toNat) U;clear f;refine iE ?_;clear Y;intro w Y;replace Y:=Z.mF (i:=((bz t t.vars.length).getD k bC.dflt).bh.toNat) U U Y;have o:=hM.vK (v:=((bz t t.vars.length).getD k bC.dflt).bh.toNat) (u:=((bz t t.vars.length).getD k bC.dflt).dst.toNat) U U;obtain⟨C,q⟩:=À (lg n ((bz t t.vars.length).getD k bC.dflt).bh.toNat ((bz t t.vars.length).getD k bC.dflt).dst.toNat true);rw[<-q]at o;change Z w0 w (aj ah 4 ss (lg n ((bz t t.vars.length).getD k bC.dflt).bh.toNat ((bz t t.vars.length).getD k bC.dflt).dst.toNat true)::_) at Y;rw[<-q]at Y;have z:=o.len;have _g:=o.row ((bz t t.vars.length).getD k bC.dflt).dst.toNat U;replace Y:=Y.gV (i:=((bz t t.vars.length).getD k bC.dflt).dst.toNat) U;refine iE ?_;clear Y;intro w Y;replace Y:=Z.mF (i:=((bz t t.vars.length).getD k bC.dflt).dst.toNat) U U Y
  change Z w0 w (aj ah 4 ss (lg C ((bz t t.vars.length).getD k bC.dflt).dst.toNat ((bz t t.vars.length).getD k bC.dflt).bh.toNat true)::_) at Y;refine O ?_;refine⟨k+1,lg C ((bz t t.vars.length).getD k bC.dflt).dst.toNat ((bz t t.vars.length).getD k bC.dflt).bh.toNat true,⟨rfl,az⟩,aU,⟨U,?_,Y.aY⟩,U⟩;exact(o.vK (v:=((bz t t.vars.length).getD k bC.dflt).dst.toNat) (u:=((bz t t.vars.length).getD k bC.dflt).bh.toNat) U U).congr fun x y _ _=>by
   rw[BA,or_assoc];refine or_congr x6 (or_congr ⟨fun h=>⟨U,U⟩,fun h=>⟨U,U⟩⟩ ⟨fun h=>⟨U,U⟩,fun h=>⟨U,U⟩⟩)
 have B:k=(bz t t.vars.length).length:=U;subst B;have hN:MI n t.vars.length (fun x y=>dO t (x:Int) (y:Int)):=hM.congr fun x y hx hy=>n_ hx hy;clear hM;have _B:=hN.len;refine l7 ?_;clear Y;intro s w Y;obtain⟨gv,rfl⟩:=À s;rw[jo]at Y;refine dQ [15,15,76,84] (G:=Nat) (H:=List Bool) (fun k _=>[(76,E k)]) (fun k G w=>k<=t.aH.length/\VI G t.vars.length (fun x=>(∃ i,i<k/\(t.aH.getD i aq.dflt).var=(x:Int)))/\Z w0 w [X ah 4 gv G,aj ah 4 ss n,X ap 140 out ss,ak r 26 [a,b,c,d]]) (fun k _=>t.aH.length-k) 0 _ (fun _ _=>rfl) ⟨rfl,az⟩ ⟨bu _,(VI.rep t.vars.length).congr fun v _=>⟨False.elim,fun⟨op,h,_⟩=>absurd h (dr _)⟩,Y.aY⟩ ?_;clear Y hk;rintro σ k G w ⟨hk,hG,Y⟩;have _C:=hG.len;refine aB ?_ ?_<;>intro h1
 ·have j:k<t.aH.length:=U
  have o:=yB I.aH _ (cH aq.dflt j);unfold bN at o;refine eE ?_;clear Y;intro p w Y;refine⟨k+1,_,⟨rfl,az⟩,aU,⟨U,?_,Y.tail⟩,U⟩;exact(hG.vK (u:=(t.aH.getD k aq.dflt).var.toNat) U).congr fun x _=>by
   rw[BA];exact or_congr x6 ⟨fun h=>U,fun h=>U⟩
 have B:k=t.aH.length:=U;subst B;have hV:VI G t.vars.length (lJ t):=hG.congr fun x _=>k_.symm;clear hG hk h1;obtain⟨K,_h⟩:=À (eU size);have _i:=o_ size;rw[<-_h]at _i ⊢;have H':(if (if 3<size then 3 else size)>1 then if 3<size then 3 else size else 1)=(K:Int):=by rw[_h];unfold eU;split<;>split at*<;> omega
 refine O ?_;have f:Z w0 w [aj W 3 [] (uF t 0),X ap 22 (nS) [],X ah 4 gv G,aj ah 4 ss n,X ap 140 out ss,ak r 26 [a,b,c,d]]:=Y.nil.qK;clear Y;refine nZ [16,17,89,101] (G:=Nat) (H:=Value) (I':=List Value) (fun k m _=>[(89,E k),(16,m)]) (fun k m os w=>k<=t.vars.length/\Z w0 w [aj W 3 os (uF t k),X ap 22 m os,X ah 4 gv G,aj ah 4 ss n,X ap 140 out ss,ak r 26 [a,b,c,d]]) (fun k _ _=>t.vars.length-k) 0 (nS) [] (fun _ _ _=>rfl) ⟨rfl,rfl,az⟩ ⟨bu _,f⟩ ?_;clear f;rintro σ k m os w ⟨hk,Y⟩;refine aB ?_ ?_<;>intro h1
 ·have j:k<t.vars.length:=U
  have o:=hV.dJ k j;have hlen:=OE (t:=t) V (k:=k) U;have J':=Y.cb;have z:uF t (k+1)=uF t k++vu t [(k:Int)]:=by unfold uF;rw[q8 (bu k)]
  refine oC ?_
  cases hb:G.getD k ah.dflt with
  | false =>
   rw[show G.getD k false=false from hb]at o;refine O ?_
   exact⟨k+1,m,os,⟨rfl,rfl,az⟩,aU,⟨U,by rw[z,JH (fun h=>by have:=o.2 (Ub.1 h);cases this),fS];exact Y⟩,U⟩
  | true =>
   rw[show G.getD k false=true from hb]at o
   repeat (first|refine du ?_|(refine fA ?_;clear Y;intro s w Y))
   exact⟨k+1,_,_,⟨rfl,rfl,az⟩,aU,⟨U,by rw[z,JG (Ub.2 (o.1 rfl))];exact Y.tail.j1⟩,U⟩
 have B:k=t.vars.length:=U;subst B;have _t:=OE (t:=t) V (cD _);have L:uG t t.vars.length 0=[]:=vt (cD _);have f:Z w0 w [aj W 3 os (uF t t.vars.length++uG t t.vars.length 0),X ap 22 m os,X ah 4 gv G,aj ah 4 ss n,X ap 140 out ss,ak r 26 [a,b,c,d]]:=by rw[L,fS];exact Y
 clear Y h1 hk;refine O ?_;refine nZ [16,16,18,19,102,142] (G:=Nat) (H:=Value) (I':=List Value) (fun k m _=>[(18,E k),(16,m)]) (fun k m os w=>k<=t.vars.length/\(2<=K\/k=0)/\Z w0 w [aj W 3 os (uF t t.vars.length++uG t t.vars.length k),X ap 22 m os,X ah 4 gv G,aj ah 4 ss n,X ap 140 out ss,ak r 26 [a,b,c,d]]) (fun k _ _=>t.vars.length-k) 0 m os (fun _ _ _=>rfl) ⟨rfl,rfl,az⟩ ⟨bu _,.inr rfl,f⟩ ?_;clear f;rintro _D k m os w ⟨hk,_j,Y⟩;have D:=Y.cb;refine aB ?_ ?_<;>intro h1
 ·rw[H']at h1
  have q:k<t.vars.length:=U;have _b:=OF V q (cD _);refine O ?_;have R:vw t k (k+1)=[]:=vt (cD _);have f:Z w0 w [aj W 3 os (uF t t.vars.length++uG t t.vars.length k++vw t k (k+1)),X ap 22 m os,X ah 4 gv G,aj ah 4 ss n,X ap 140 out ss,ak r 26 [a,b,c,d]]:=by rw[R,fS];exact Y
  clear Y D;refine nZ [16,16,19,19,113,142] (G:=Nat) (H:=Value) (I':=List Value) (fun j m _=>[(19,E j),(16,m)]) (fun j m os w=>k+1<=j/\j<=t.vars.length/\Z w0 w [aj W 3 os (uF t t.vars.length++uG t t.vars.length k++vw t k j),X ap 22 m os,X ah 4 gv G,aj ah 4 ss n,X ap 140 out ss,ak r 26 [a,b,c,d]]) (fun j _ _=>t.vars.length-j) (k+1) m os (fun _ _ _=>rfl) ⟨rfl,rfl,az⟩ ⟨cD _,U,f⟩ ?_;clear f;rintro _u j F C w ⟨P',hj,Y⟩;refine aB ?_ ?_<;>intro h2
  ·have A:j<t.vars.length:=U
   have N:=hV.dJ k q;have P:=hV.dJ j A;have Q:=hN.dJ k j q A;have V':=OF V q hj;have J':=Y.cb;rw[length_append,length_append]at J';have z:vw t k (j+1)=vw t k j++vu t [(k:Int),(j:Int)]:=by unfold vw;rw[q8 P']
   have S:=Y.tail.tail.tail.row (i:=k) U;have _a:=hN.row k q;have o:((G.getD k ah.dflt || G.getD j ah.dflt) && (n.getD k []).getD j ah.dflt)=true↔mV t [(k:Int),(j:Int)]:=by
    rw[l_,<-N,<-P,<-Q,Bool.and_eq_true,qa];rfl
   refine oC ?_
   cases hb:((G.getD k ah.dflt || G.getD j ah.dflt) && (n.getD k []).getD j ah.dflt) with
   | false =>
    rw[hb]at o;refine O ?_
    exact⟨j+1,F,C,⟨rfl,rfl,az⟩,aU,⟨U,U,by rw[z,JH (fun h=>by have:=o.2 h;cases this),fS];exact Y⟩,U⟩
   | true =>
    rw[hb]at o;clear S;refine O ?_;refine ya (T:=W) [(k:Int),(j:Int)] [E k,E j] rfl rfl rfl rfl rfl (fY rfl) (fe _) (fY rfl) Y ?_;clear Y;intro sv w Y
    repeat (first|refine du ?_|(refine fA ?_;clear Y;intro s w Y))
    exact⟨j+1,_,_,⟨rfl,rfl,az⟩,aU,⟨U,U,by rw[z,JG (o.1 rfl),<-fL];exact Y.tail.j1⟩,U⟩
  have _a:j=t.vars.length:=U;subst _a;refine O ?_;refine⟨k+1,F,C,⟨rfl,rfl,az⟩,aU,⟨U,.inl U,?_⟩,U⟩;rw[show uG t t.vars.length (k+1)=uG t t.vars.length k++vw t k t.vars.length by unfold uG;rw[q8 (bu k)],<-fL];exact Y
 rw[H']at h1
 obtain⟨R,_k,_w,_b⟩:∃ R,uF t t.vars.length++uG t t.vars.length k=R/\R.length<=78/\R=if 2<=K then je t 1++je t 2 else je t 1:=by
  refine⟨_,rfl,?_,?_⟩
  ·have:=(Dv V).2.1
   rw[JM]at this;have h3:=Co (g:=fun a=>vw t a t.vars.length) (lo:=0) hk;unfold uG at *
   rw[length_append];omega
  by_cases e:2<=K
  ·rw[aM e,JL,JM,show k=t.vars.length by omega]
  rw[aC e,JL,show k=0 by omega,L,fS]
 rw[_k]at Y D;clear _k h1 hk _j L _t;have S:sq t t.vars.length 0=[]:=vt (cD _);have f:Z w0 w [aj W 3 os (R++sq t t.vars.length 0),X ap 22 m os,X ah 4 gv G,aj ah 4 ss n,X ap 140 out ss,ak r 26 [a,b,c,d]]:=by rw[S,fS];exact Y
 clear Y;refine O ?_;refine nZ [16,16,20,23,143,248] (G:=Nat) (H:=Value) (I':=List Value) (fun k m _=>[(20,E k),(16,m)]) (fun k m os w=>k<=t.vars.length/\(3<=K\/k=0)/\Z w0 w [aj W 3 os (R++sq t t.vars.length k),X ap 22 m os,X ah 4 gv G,aj ah 4 ss n,X ap 140 out ss,ak r 26 [a,b,c,d]]) (fun k _ _=>t.vars.length-k) 0 m os (fun _ _ _=>rfl) ⟨rfl,rfl,az⟩ ⟨bu _,.inr rfl,f⟩ ?_;clear f D;rintro _u k m os w ⟨hk,_j,Y⟩;have D:=Y.cb;have _E:(sq t t.vars.length k).length<=220:=by
  have h:=(Dv V).2.2;rw[JN]at h;have h3:=Co (g:=fun a=>tF t t.vars.length a t.vars.length) (lo:=0) hk;unfold sq at *
  omega
 rw[length_append]at D;refine aB ?_ ?_<;>intro h1
 ·rw[H']at h1
  have q:k<t.vars.length:=U;refine O ?_;have _l:tF t t.vars.length k (k+1)=[]:=vt (cD _);have f:Z w0 w [aj W 3 os (R++sq t t.vars.length k++tF t t.vars.length k (k+1)),X ap 22 m os,X ah 4 gv G,aj ah 4 ss n,X ap 140 out ss,ak r 26 [a,b,c,d]]:=by rw[_l,fS];exact Y
  clear Y D;refine nZ [16,16,21,23,159,248] (G:=Nat) (H:=Value) (I':=List Value) (fun j m _=>[(21,E j),(16,m)]) (fun j m os w=>k+1<=j/\j<=t.vars.length/\Z w0 w [aj W 3 os (R++sq t t.vars.length k++tF t t.vars.length k j),X ap 22 m os,X ah 4 gv G,aj ah 4 ss n,X ap 140 out ss,ak r 26 [a,b,c,d]]) (fun j _ _=>t.vars.length-j) (k+1) m os (fun _ _ _=>rfl) ⟨rfl,rfl,az⟩ ⟨cD _,U,f⟩ ?_;clear f;rintro _F j F C w ⟨P',hj,Y⟩;refine aB ?_ ?_<;>intro h2
  ·have A:j<t.vars.length:=U
   refine O ?_;have _m:wc t k j (j+1)=[]:=vt (cD _);have f:Z w0 w [aj W 3 C (R++sq t t.vars.length k++tF t t.vars.length k j++wc t k j (j+1)),X ap 22 F C,X ah 4 gv G,aj ah 4 ss n,X ap 140 out ss,ak r 26 [a,b,c,d]]:=by rw[_m,fS];exact Y
   clear Y;refine nZ [16,16,22,23,166,248] (G:=Nat) (H:=Value) (I':=List Value) (fun l m _=>[(22,E l),(16,m)]) (fun l m os w=>j+1<=l/\l<=t.vars.length/\Z w0 w [aj W 3 os (R++sq t t.vars.length k++tF t t.vars.length k j++wc t k j l),X ap 22 m os,X ah 4 gv G,aj ah 4 ss n,X ap 140 out ss,ak r 26 [a,b,c,d]]) (fun l _ _=>t.vars.length-l) (j+1) F C (fun _ _ _=>rfl) ⟨rfl,rfl,az⟩ ⟨cD _,U,f⟩ ?_;clear f;rintro _G l _n _o w ⟨T',hl,Y⟩;refine aB ?_ ?_<;>intro h3
   ·have _c:l<t.vars.length:=U
    have N:=hV.dJ k q;have P:=hV.dJ j A;have Q:=hV.dJ l _c;have _p:=hN.dJ k j q A;have _q:=hN.dJ j l A _c;have _r:=hN.dJ k l q _c;have V':=V8 V q P' A hl;have J':=Y.cb;rw[length_append,length_append,length_append]at J';have z:wc t k j (l+1)=wc t k j l++vu t [(k:Int),(j:Int),(l:Int)]:=by unfold wc;rw[q8 T']
    have _d:=Y.tail.tail.tail.row (i:=k) U;have _g:=hN.row k q;have _e:=Y.tail.tail.tail.row (i:=j) U;have _x:=hN.row j A;have o:(((n.getD k []).getD j ah.dflt && (n.getD j []).getD l ah.dflt || (n.getD k []).getD j ah.dflt && (n.getD k []).getD l ah.dflt || (n.getD k []).getD l ah.dflt && (n.getD j []).getD l ah.dflt) && (G.getD k ah.dflt || G.getD j ah.dflt || G.getD l ah.dflt))=true↔mV t [(k:Int),(j:Int),(l:Int)]:=by
     rw[m_,<-N,<-P,<-Q,<-_p,<-_q,<-_r];simp only[Bool.and_eq_true,qa];exact⟨fun⟨h1,h2⟩=>⟨or_assoc.1 h2,or_assoc.1 h1⟩,fun⟨h1,h2⟩=>⟨or_assoc.2 h2,or_assoc.2 h1⟩⟩
    refine oC ?_
    cases hb:(((n.getD k []).getD j ah.dflt && (n.getD j []).getD l ah.dflt || (n.getD k []).getD j ah.dflt && (n.getD k []).getD l ah.dflt || (n.getD k []).getD l ah.dflt && (n.getD j []).getD l ah.dflt) && (G.getD k ah.dflt || G.getD j ah.dflt || G.getD l ah.dflt)) with
    | false =>
     rw[hb]at o;refine O ?_
     exact⟨l+1,_n,_o,⟨rfl,rfl,az⟩,aU,⟨U,U,by rw[z,JH (fun h=>by have:=o.2 h;cases this),fS];exact Y⟩,U⟩
    | true =>
     rw[hb]at o;clear _d _e;refine O ?_;refine ya (T:=W) [(k:Int),(j:Int),(l:Int)] [E k,E j,E l] rfl rfl rfl rfl rfl (fY rfl) (fe _) (fY rfl) Y ?_;clear Y;intro sv w Y
     repeat (first|refine du ?_|(refine fA ?_;clear Y;intro s w Y))
     exact⟨l+1,_,_,⟨rfl,rfl,az⟩,aU,⟨U,U,by rw[z,JG (o.1 rfl),<-fL];exact Y.tail.j1⟩,U⟩
   have eI:l=t.vars.length:=U;subst eI;refine O ?_;refine⟨j+1,_n,_o,⟨rfl,rfl,az⟩,aU,⟨U,U,?_⟩,U⟩;rw[show tF t t.vars.length k (j+1)=tF t t.vars.length k j++wc t k j t.vars.length by unfold tF;rw[q8 P'],<-fL];exact Y
  have _a:j=t.vars.length:=U;subst _a;refine O ?_;refine⟨k+1,F,C,⟨rfl,rfl,az⟩,aU,⟨U,.inl U,?_⟩,U⟩;rw[show sq t t.vars.length (k+1)=sq t t.vars.length k++tF t t.vars.length k t.vars.length by unfold sq;rw[q8 (bu k)],<-fL];exact Y
 rw[H']at h1;have j:R++sq t t.vars.length k=fM t K:=by
  have:K=1\/K=2\/K=3:=U;rcases this with e|e|e
  ·rw[_b,aC U,e,V5,show k=0 by omega,S,fS]
  ·rw[_b,aM U,e,V6,show k=0 by omega,S,fS]
  rw[_b,aM U,e,V7,JN,show k=t.vars.length by omega]
 have o:(fM t K).length<=298:=by rw[<-j,length_append];omega
 rw[j]at Y;have q:os.length=(fM t K).length:=Y.cb;refine aB ?_ ?_<;>intro z
 ·exfalso;omega
 refine O ?_;exact cR (v:=m) (v':=.nilIface) rfl rfl rfl ⟨m,os,rfl,Y.aY⟩
end
section
open Go.Sl
def q_ {n m:Nat}(e:n<=12)(hm:m<=3):(sr n m).length<=220:=by
 have h:=OD n U;have:m=0\/m=1\/m=2\/m=3:=U;rcases this with rfl|rfl|rfl|rfl
 ·simp[sr]
 ·omega
 ·omega
 omega
def r_ (t:aa):fM t 0=[]:=vt U
def s_ (t:aa)(m:Nat):fM t (m+1)=fM t m++je t (m+1):=by
 unfold fM;rw[q8 U]
def Uc {t:aa}(e:t.vars.length<=12):∀ {m:Nat},m<=3->(fM t m).length<=m*220
 | 0,_=>by rw[r_];exact cD _
 | m+1,h=>by
  have f:=Uc e (m:=m) U;have h1:=Ge (t:=t) (m+1);have g:=q_ e (m:=m+1) U;rw[s_,length_append];omega
end
section
open Go.Sl Go
attribute [local irreducible] vc opsW opsD opV opW PureV ReadV Thn Blk
def Ud {n:Nat}:∀ {m:Nat}{p:J},p∈sr n m->(∀ v∈p,0<=v/\v<(n:Int))/\p.Pairwise (·<·)/\∀ v∈p,v<(qL p:Int)
 | 0,p,h=>by
  have e:p=[]:=by simpa [sr] using h
  subst e
  exact⟨fun v hv=>absurd hv fI,Pairwise.nil,fun v hv=>absurd hv fI⟩
 | m+1,p,h=>by
  obtain⟨q,hq,g⟩:=tE.1 h;obtain⟨h1,j,f⟩:=Ud hq;obtain⟨k,r,x,hk⟩:=Du.1 g;obtain rfl:=dp.1 hk;refine⟨fun v hv=>?_,CA.2 ⟨j,sm,fun a l b o=>?_⟩,fun v hv=>?_⟩
  ·rcases gG.1 hv with hv|hv
   ·exact h1 v hv
   rw[dp.1 hv];omega
  ·rw[dp.1 o]
   have:=f a l;omega
  rw[JJ];rcases gG.1 hv with hv|hv
  ·have:=f v hv;omega
  rw[dp.1 hv];omega
def Ue {p:J}(h:p∈fM t k):jp t.vars p:=by
 obtain⟨m,_,_,hm⟩:=Du.1 h;have:=Ud (rV.1 hm).1;exact⟨this.1,this.2.1⟩
noncomputable def df (t:aa)(size:Int):List J:=(fM t (eU size)).take 32
def EN (t:aa)(size:Int):(df t size).length<=32:=by unfold df;rw[jd];omega
def BJ {size:Int}(h:i<(df t size).length):jp t.vars ((df t size).getD i []):=by
 rw[am h];exact Ue (pO (wq h))
def TY {size:Int}(e:fy t)(h:i<(df t size).length):cT t ((df t size).getD i [])=0:=(Ln e (BJ h)).1
def t_ {size:Int}(h:i<(df t size).length):(df t size).getD i []=(fM t (eU size)).getD i []:=by
 have f:i<(fM t (eU size)).length:=by unfold df at h;rw[jd]at h;omega
 have e:i<32:=by have:=EN t size;omega
 show ((fM t (eU size)).take 32).getD i []=_;simp only[List.getD];rw[wG,aM e]
def u_ {os:List Value}(h:i<(os.take k).length):cG (os.take k) i=cG os i:=by
 rw[jd]at h;rw[l9,l9];simp only[List.getD];rw[wG,aM U]
def v_ {os:List Value}(h:k<os.length):os.take (k+1)=os.take k++[cG os k]:=by
 rw[eC undef h,l9]
def Uf {size:Int}{f:Value}{os:List Value}{Γ:List HP}(Y:Z w0 w (X ap 22 f (os.take 32)::aj W 3 os (fM t (eU size))::Γ)):∃ ss,sk w f ss (df t size):=by
 have g:os.length=(fM t (eU size)).length:=Y.swap.cb;refine⟨os.take 32,Y.rs 0 rfl,by unfold df;rw[jd,jd,g],fun i e=>?_⟩;have h:i<(fM t (eU size)).length:=by unfold df at e;rw[jd]at e;omega
 rw[t_ e,u_ (by unfold df at e;rw[jd]at e ⊢;rw[g];exact e)];exact Y.swap.row h
def TW {size:Int}(C:bn w0 a b c d vs t)(x:fy t) :
  Calls ai 55 #[.agg #[a,b,c,d],E size] w0 fun e w'=>∃ f,e=.returned (.tuple #[f,.nilIface])/\Z w0 w' [aZ fun w=>∃ ss,sk w f ss (df t size)]:=by
 have I:=x.cZ;have F:=Uc (t:=t) x.vars (m:=eU size) (by unfold eU;omega);have Y:=Z.start w0;refine bA an Tryz.func55 ?_;refine eE ?_;intro y w Y;refine aL rfl (p_ (C.at Y) I x.vars) ?_;rintro _ w' ⟨z,os,rfl,al⟩;refine iM ?_;clear al Y;intro Y;have K:os.length=(fM t (eU size)).length:=Y.cb;replace Y:=Y.nil (T:=ap) (e:=22);refine O ?_;have q:Z w0 w' [X ap 22 (nS) (os.take 0),aj W 3 os (fM t (eU size)),X ap 22 z os,ak y 26 [a,b,c,d]]:=Y;refine dQ [8,8,10,12,24,43] (G:=Nat) (H:=Value) (fun k f=>[(24,E k),(8,f)]) (fun k f w=>k<=os.length/\k<=32/\Z w0 w [X ap 22 f (os.take k),aj W 3 os (fM t (eU size)),X ap 22 z os,ak y 26 [a,b,c,d]]) (fun k _=>os.length-k) 0 (nS) (fun _ _=>rfl) ⟨rfl,rfl,az⟩ ⟨bu _,U,q⟩ ?_;clear Y q;rintro σ k f w ⟨hk,D,Y⟩;have N:(os.take k).length=k:=by rw[jd];omega
 refine aB ?_ ?_<;>intro h1
 ·have A:k<os.length:=U
  have j:k<(fM t (eU size)).length:=U;have g:=Y.swap.row j;refine aB ?_ ?_<;>intro h2
  ·have l:k=32:=U
   subst l;refine O ?_;exact cR (v:=f) (v':=.nilIface) rfl rfl rfl ⟨f,rfl,(Z.rd (Δ:=[X ap 22 f (os.take 32),aj W 3 os (fM t (eU size)),X ap 22 z os,ak y 26 [a,b,c,d]]) (Γ:=[]) (φ:=fun w=>∃ ss,sk w f ss (df t size)) (fun _ _ h=>Uf h) Y).only⟩
  have o:cT t ((fM t (eU size)).getD k [])=0:=(Ln x (Ue (by rw[am j];exact wq j))).1;obtain⟨L,P⟩:=À ((fM t (eU size)).getD k []);rw[<-P]at o g;refine O ?_;refine aL rfl (F0 (vp:=cG os k) (L:=L) (C.at Y) g) ?_;rintro _ w' ⟨Q,R,gv,rfl,al⟩;rw[o,F1]at al;rw[o,fK rfl,F1,N4];have r:=Y.call al;clear al Y;have Y:=r;clear r;refine⟨_,rfl,?_⟩;have S:=(Y.rs 0 rfl).one;have V:=(Y.rs 1 rfl).one;have o3:=(Y.rs 2 rfl).one;refine Jj ?_;intro p w Y;refine jF (n:=5) (p:=p) (vs:=[E (br t.vars L),E (bX t.vars L t.cC),Q,R,gv]) rfl rfl Y inferInstance rfl rfl (by simp only[eD,eN,S,V,o3];rfl) ?_;clear Y;intro w Y
  repeat (first|refine du ?_|(refine fA ?_;clear Y;intro s w Y))
  obtain⟨B,rfl⟩:=À s;rw[<-v_ A]at Y;exact⟨k+1,B,⟨rfl,rfl,az⟩,aU,⟨U,U,Y.tail.tail.tail.tail.tail⟩,U⟩
 refine O ?_;have l:os.take k=os.take 32:=by rw[gH U,gH U]
 rw[l]at Y;exact cR (v:=f) (v':=.nilIface) rfl rfl rfl ⟨f,rfl,(Z.rd (Δ:=[X ap 22 f (os.take 32),aj W 3 os (fM t (eU size)),X ap 22 z os,ak y 26 [a,b,c,d]]) (Γ:=[]) (φ:=fun w=>∃ ss,sk w f ss (df t size)) (fun _ _ h=>Uf h) Y).only⟩
def kQ (t:aa)(Ls:List J)(f:List Value)(e:List J)(w:World):Prop:=f.length=e.length/\∀ i,i<e.length->∃ q,cG f i=.pointer (some q)/\v7 w q (nF t (Ls.getD i []) (e.getD i []))
def re (ps:List Value)(e:List J)(w:World):Prop:=ps.length=e.length/\∀ i,i<e.length->RS W w (cG ps i) (e.getD i [])
def AB (w:World)(p:Addr)(t:aa)(Ls l m:List J):Prop:=∃ e f g h j,dL w p [e,f,g]/\RS W w e t.vars/\RS ap w f h/\kQ t Ls h l w/\RS ap w g j/\re j m w
def kQ.at {w0 w:World}{Γ:List HP}{t:aa}{Ls:List J}{e:List Value}{f:List J}(h:kQ t Ls e f w0)(Y:Z w0 w Γ):kQ t Ls e f w:=⟨h.1,fun i g=>let ⟨q,a,b⟩:=h.2 i g;⟨q,a,b.at Y⟩⟩
def re.at {w0 w:World}{Γ:List HP}{ps:List Value}{e:List J}(h:re ps e w0)(Y:Z w0 w Γ):re ps e w:=⟨h.1,fun i f=>(h.2 i f).at Y⟩
def AB.at {w0 w:World}{Γ:List HP}{p:Addr}{t:aa}{Ls e f:List J}(h:AB w0 p t Ls e f)(Y:Z w0 w Γ):AB w p t Ls e f:=by
 obtain⟨g,j,l,m,n,h1,o,q,r,x,y⟩:=h;exact⟨g,j,l,m,n,h1.at Y,o.at Y,q.at Y,r.at Y,x.at Y,y.at Y⟩
def Ug {v:Value}(h:i<ss.length):cG (ss++[v]) i=cG ss i:=by simp[l9,iD,iX h]
def Uh {v:Value}(h:i=ss.length):cG (ss++[v]) i=v:=by subst h;simp[l9,iD]
def kQ.eQ {Ls:List J}{g:List Value}{f:List J}{q:Addr}{D:J}(h:kQ t Ls g f w)(hq:v7 w q (nF t (Ls.getD f.length []) D)):kQ t Ls (g++[.pointer (some q)]) (f++[D]) w:=by
 have h1:=h.1;refine⟨by simp[h1],fun i l=>?_⟩;simp only[length_append,length_cons,length_nil]at l;by_cases e:i<f.length
 ·rw[Ug U,Ba e];exact h.2 i e
 have j:i=f.length:=U;rw[Uh U,zL j,j];exact⟨q,rfl,hq⟩
def re.eQ {ps:List Value}{f:List J}{s:Value}{S:J}(h:re ps f w)(g:RS W w s S):re (ps++[s]) (f++[S]) w:=by
 have h1:=h.1;refine⟨by simp[h1],fun i j=>?_⟩;simp only[length_append,length_cons,length_nil]at j;by_cases e:i<f.length
 ·rw[Ug U,Ba e];exact h.2 i e
 have l:i=f.length:=U;rw[Uh U,zL l];exact g
open Classical in
noncomputable def nW (t:aa)(Ls:List J):Int:=if bM t≠0 then bM t else if ∃ i,i<Ls.length/\¬fi t.vars (Ls.getD i []) then 2 else if 32<Ls.length then 5 else 0
def mq (t:aa)(k:Nat):J:=(List.range t.M.length).map fun i=>if i<k then (ar t).getD i W.dflt else 0
def w_ (t:aa)(k:Nat):(mq t k).length=t.M.length:=by simp[mq]
def x_ (t:aa):mq t 0=replicate t.M.length 0:=by
 apply iB (by simp[mq]);intro i h1 e;simp[mq]
def y_ (t:aa):mq t t.M.length=ar t:=by
 apply iB (by simp[mq,ar]);intro i h1 e;have f:i<t.M.length:=by simpa [mq] using h1
 simp[mq,f,List.getD,e]
def z_:(mq t k).set k ((ar t).getD k W.dflt)=mq t (k+1):=by
 apply iB (by simp[mq]);intro i h1 f;rw[si];simp only[mq,mK,qZ];split
 ·rename_i e;subst e;rw[aM U]
 by_cases h:i<k
 ·rw[aM h,aM U]
 rw[aC h,aC U]
def A_ {cs:J}(h:cs.length=t.M.length):uD t cs=cs:=by
 unfold uD;split
 ·rename_i e
  rw[n0 e];exact n0 (by simp only[ar,iz];omega)
 rfl
def eA.BW {c L:J}(h:eA t c)(I:aG t)(e:cT t L=0):iG t L c=0:=by
 unfold iG;rw[aC (by rw[(oz t).2 I];decide),aC (by have:=h.len;omega),aC (fun⟨x,hx,f⟩=>by have:=h.dK x hx;unfold mT at f;omega),e]
def η {s:Value}{Ls:List J}(ht:bn w0 a b c d vs t)(hl:sk w0 s ss Ls)(hP:aG t->(∀ i,i<Ls.length->fi t.vars (Ls.getD i []))->Ls.length<=32->∀ i,i<Ls.length->cT t (Ls.getD i [])=0) :
  Calls ai 57 #[.agg #[a,b,c,d],s] w0 fun e w' =>
   (nW t Ls≠0/\e=.returned (.tuple #[.pointer none,bI (nW t Ls)])/\Z w0 w' []) \/
   (nW t Ls=0/\aG t/\Ls.length<=32/\(∀ i,i<Ls.length->cT t (Ls.getD i [])=0)/\∃ p y f,e=.returned (.tuple #[.pointer (some p),.nilIface])/\tk t Ls (ar t) y f/\Z w0 w' [aZ fun w=>AB w p t Ls y f]):=by
 have j':=ht;obtain⟨ha,hb,hc,hd⟩:=ht;have _v:=hd.rs;have _w:=hd.len;have _g:=hl.rs;have _x:=hl.len;have _y:=_g.bU;have Y:=Z.start w0;refine bA an Tryz.func57 ?_;refine eE ?_;intro Q w Y;refine aL rfl (tC (j'.at Y)) ?_;rintro _ w' ⟨rfl,al⟩;refine aA ?_;clear al Y;intro Y;by_cases h1:bM t=0;rotate_left
 ·have l:nW t Ls=bM t:=aM h1
  rw[cS h1];refine O ?_;exact cR (v:=.pointer none) (v':=.iface 57 (E (bM t))) rfl rfl rfl (.inl ⟨by rw[l];exact h1,by rw[l,cS h1],Y.aY⟩)
 rw[fK h1];have I:=(oz t).1 h1;have _z:=I.M;refine O ?_;refine aL rfl (ç (j'.at Y) (pB Y) (hl.at Y)) ?_;rintro _ w' ⟨⟨r,rfl,hr⟩,al⟩;refine aA ?_;clear al Y;intro Y;cases r;rotate_left
 ·have l:nW t Ls=2:=by unfold nW;rw[aC (by simp[h1]),aM (hr.1 rfl)]
  refine O ?_;exact cR (v:=.pointer none) (v':=.iface 57 (E 2)) rfl rfl rfl (.inl ⟨by rw[l];decide,by rw[l,cS dc],Y.aY⟩)
 have R:∀ i,i<Ls.length->fi t.vars (Ls.getD i []):=fun i hi=>by
  by_cases h:fi t.vars (Ls.getD i [])
  ·exact h
  have:=hr.2 ⟨i,hi,h⟩;cases this
 have R':¬∃ i,i<Ls.length/\¬fi t.vars (Ls.getD i []):=fun⟨i,hi,h⟩=>h (R i hi);refine aB ?_ ?_<;>intro h2
 ·have l:nW t Ls=5:=by unfold nW;rw[aC (by simp[h1]),aC R',aM U]
  refine O ?_;exact cR (v:=.pointer none) (v':=.iface 57 (E 5)) rfl rfl rfl (.inl ⟨by rw[l];decide,by rw[l,cS dc],Y.aY⟩)
 have l:nW t Ls=0:=by unfold nW;rw[aC (by simp[h1]),aC R',aC U]
 have V:Ls.length<=32:=U;have T':=hP I R V;refine l7 ?_;intro s w Y;obtain⟨N,rfl⟩:=À s;rw[show ((vs.length:Int)).toNat=t.M.length by omega,<-x_ t]at Y;refine cP [8,9,37,47] (G:=Nat) (fun k=>[(37,E k)]) (fun k w=>k<=t.M.length/\Z w0 w [X W 3 N (mq t k),ak Q 26 [a,b,c,d]]) (fun k=>t.M.length-k) 0 (fun _=>rfl) ⟨rfl,az⟩ ⟨bu _,Y⟩ ?_;clear Y;rintro σ k w ⟨hk,Y⟩;have _h:=w_ t k;refine aB ?_ ?_<;>intro h3
 ·have B:k<t.M.length:=U
  have g:=hd.dJ k B;have m:=g.one;have j:=g.aN;refine eE ?_;intro p w Y;rw[j,<-vZ B,z_]at Y;exact⟨k+1,⟨rfl,az⟩,aU,⟨U,Y.aY⟩,U⟩
 have H':k=t.M.length:=U;subst H';rw[y_]at Y;clear _h;have hC:=xT I;have _i:t.vars.length<=1099511627776:=by have:=I.vars;omega
 refine O ?_;refine aL rfl (ns (ha.at Y) _i) ?_;rintro _ w' ⟨g,rfl,al⟩;refine aI ?_;clear al Y;intro Y;have _j:=(Y.rs 0 rfl).one;refine Jv (v1:=g) rfl rfl (by simp only[eD,eN,_j];rfl) ?_;refine yo (vs:=[g,nS,nS]) rfl Y ?_;clear Y;intro pp w Y;refine O ?_;have m:Z w0 w [X W 3 N (dG (ar t) [] 0),aZ (kQ t Ls [] []),aZ (re [] []),X ap 149 (nS) [],X ap 22 (nS) [],ak pp 155 [g,nS,nS],X W 3 g t.vars,ak Q 26 [a,b,c,d]]:=by
  have z:Z w0 w [ak pp 155 [g,nS,nS],X W 3 g t.vars,X W 3 N (ar t),ak Q 26 [a,b,c,d]]:=Y;have J':=Z.pR (φ:=re [] []) (fun w=>⟨rfl,fun i hi=>absurd hi (dr _)⟩) (Z.pR (φ:=kQ t Ls [] []) (fun w=>⟨rfl,fun i hi=>absurd hi (dr _)⟩) ((z.nil (T:=ap) (e:=149)).nil (T:=ap) (e:=22)));rw[N8];exact J'.aY
 clear Y;refine cP [4,5,12,16,55,107] (G:=Nat × Value × Value × List Value × List Value × List J × List J) (fun x=>[(55,E x.1)]) (fun x w=>x.1<=Ls.length/\tk t (Ls.take x.1) (ar t) x.2.2.2.2.2.1 x.2.2.2.2.2.2/\x.2.2.2.1.length=x.1/\x.2.2.2.2.1.length=x.1/\Z w0 w [X W 3 N (dG (ar t) x.2.2.2.2.2.2 x.1),aZ (kQ t Ls x.2.2.2.1 x.2.2.2.2.2.1),aZ (re x.2.2.2.2.1 x.2.2.2.2.2.2),X ap 149 x.2.1 x.2.2.2.1,X ap 22 x.2.2.1 x.2.2.2.2.1,ak pp 155 [g,x.2.1,x.2.2.1],X W 3 g t.vars,ak Q 26 [a,b,c,d]]) (fun x=>Ls.length-x.1) (0,nS,nS,[],[],[],[]) (fun _=>rfl) ⟨rfl,az⟩ ⟨bu _,tk.nil t _,rfl,rfl,m⟩ ?_;clear m;rintro _A ⟨k,H,K,n,o,y,f⟩ w ⟨hk,hR,V',_a,Y⟩;simp only at hk hR V' _a Y;have P':(Ls.take k).length=k:=by rw[jd];omega
 have _b:y.length=k:=by rw[hR.dl,P']
 have _c:f.length=k:=by rw[hR.pl,P']
 refine aB ?_ ?_<;>intro h4
 ·have B:k<Ls.length:=U
  have _d:=T' k B;have P:eA t (dG (ar t) f k):=hR.aN hC k U;refine O ?_;refine aL rfl (Ji (kv:=N) (vp:=cG ss k) (L:=(Ls.getD k [])) (cs:=dG (ar t) f k) (j'.at Y) ((hl.dJ k B).at Y) (bk Y)) ?_;rintro _ w' (⟨_k,_⟩|⟨_,_,_,_,q,D,rfl,hD,al⟩)
  ·exact absurd (P.BW I _d) _k
  rw[A_ P.len]at hD;refine aI ?_;clear al Y;intro Y;have _l:=Jh _d hD;refine O ?_;refine aL rfl (Vf (MQ Y) _l) ?_;rintro _ w' ⟨A,rfl,al⟩;refine aI ?_;clear al Y;intro Y;obtain⟨_m,_e⟩:=P.sub hD;have hm:(nF t (Ls.getD k []) D).l4.aS.length=t.M.length:=by show (ar t).length=_;simp[ar]
  rw[hm]at Y;have _n:(nL (bS t (Ls.getD k [])) D t.M.length).length=t.M.length:=Á;obtain⟨S,hS⟩:=À (nL (bS t (Ls.getD k [])) D t.M.length);have _o:=P.len;have m:Z w0 w' [X W 3 N (la (dG (ar t) f k) S 0),X W 3 A S,rZ q (nF t (Ls.getD k []) D),aZ (kQ t Ls n y),aZ (re o f),X ap 149 H n,X ap 22 K o,ak pp 155 [g,H,K],X W 3 g t.vars,ak Q 26 [a,b,c,d]]:=by
   have z:Z w0 w' [X W 3 A (nL (bS t (Ls.getD k [])) D t.M.length),rZ q (nF t (Ls.getD k []) D),X W 3 N (dG (ar t) f k),aZ (kQ t Ls n y),aZ (re o f),X ap 149 H n,X ap 22 K o,ak pp 155 [g,H,K],X W 3 g t.vars,ak Q 26 [a,b,c,d]]:=Y;rw[<-hS]at z;rw[Vm];exact z.aY
  clear Y;have Y:=m;clear m;rw[<-hS]at _m _e _n;have _B:=N7 (dG (ar t) f k) S 0;refine O ?_;refine cP [16,16,73,86] (G:=Nat) (fun j=>[(73,E j)]) (fun j w=>j<=t.M.length/\Z w0 w [X W 3 N (la (dG (ar t) f k) S j),X W 3 A S,rZ q (nF t (Ls.getD k []) D),aZ (kQ t Ls n y),aZ (re o f),X ap 149 H n,X ap 22 K o,ak pp 155 [g,H,K],X W 3 g t.vars,ak Q 26 [a,b,c,d]]) (fun j=>t.M.length-j) 0 (fun _=>rfl) ⟨rfl,az⟩ ⟨bu _,Y⟩ ?_;clear Y;rintro _C j w ⟨hj,Y⟩;have _D:=N7 (dG (ar t) f k) S j;refine aB ?_ ?_<;>intro h5
  ·have C:j<t.M.length:=U
   have _f:=_e j C;have _p:=P.at C;have F:=Vo (a:=dG (ar t) f k) (b:=S) (j:=j) U;refine fm ?_;intro w Y;rw[F,Vp]at Y;exact⟨j+1,⟨rfl,az⟩,aU,⟨U,Y⟩,U⟩
  have _p:j=t.M.length:=U;subst _p;have _q:dG (ar t) (f++[S]) (k+1)=oH (dG (ar t) f k) S:=by
   rw[Jk (by simp;omega),N9 U,zL _c.symm]
  have _f:la (dG (ar t) f k) S t.M.length=oH (dG (ar t) f k) S:=by rw[<-_o,Vn]
  rw[_f,<-_q]at Y;have _r:tk t (Ls.take (k+1)) (ar t) (y++[D]) (f++[S]):=by
   rw[eC [] B,hS];exact hR.eQ (by rw[P'];exact hD)
  have _s:=(bk (s:=A) Y).et;refine O ?_;refine wu (.s [0,1,2,3,4,6,9,10,11,13,5,12] (.d 7 [5,12] (.d 8 [12] (.c 14 [5,12] (.s [15,16,17,18,19,20,21] (.jE []))) (.d 14 [5,12] (.c 8 [12] (.s [15,16,17,18,19,20,21] (.jE []))) (.stop))) (.d 14 [5,12] (.c 7 [5,12] (.c 8 [12] (.s [15,16,17,18,19,20,21] (.jE [])))) (.stop)))) Y kr kr ?_;clear Y;intro w Y
  repeat' (first
   | refine du ?_
   | (refine tq ?_;clear Y;intro w Y)
   | refine jq ?_ ?_
   | exact pZ
   | (refine jK ap (x1:=.pointer (some q)) rfl rfl rfl (fY rfl) (fe _) Y ?_;clear Y;intro bq w Y)
   | (refine jK ap (x1:=A) rfl _s rfl (fY rfl) (fe _) Y ?_;clear Y;intro bs w Y)
   | (refine q7 (s:=H) (s2:=bq) inferInstance rfl rfl (bk Y) rfl rfl (fun x hx v hv=>by rw[dp.1 hx]at hv;rw[dp.1 hv];rfl) (by simp only[length_cons,length_nil];omega) (by unfold bU;simp only[length_cons,length_nil];omega) Y ?_;clear Y;intro C w Y)
   | (refine q7 (s:=K) (s2:=bs) inferInstance rfl rfl (bk Y) rfl rfl (fun x hx v hv=>by rw[dp.1 hx]at hv;rw[dp.1 hv];exact RS.one (bk (s:=A) Y)) (by simp only[length_cons,length_nil];omega) (by unfold bU;simp only[length_cons,length_nil];omega) Y ?_;clear Y;intro F w Y))
  all_goals (
   have z:Z w0 w [X W 3 N (dG (ar t) (f++[S]) (k+1)),X W 3 A S,rZ q (nF t (Ls.getD k []) D),aZ (kQ t Ls n y),aZ (re o f),X ap 149 C (n++[.pointer (some q)]),X ap 22 F (o++[A]),ak pp 155 [g,C,F],X W 3 g t.vars,ak Q 26 [a,b,c,d]]:=Y.tail.tail;have m:Z w0 w [rZ q (nF t (Ls.getD k []) D),aZ (kQ t Ls n y),X W 3 A S,aZ (re o f),X W 3 N (dG (ar t) (f++[S]) (k+1)),X ap 149 C (n++[.pointer (some q)]),X ap 22 F (o++[A]),ak pp 155 [g,C,F],X W 3 g t.vars,ak Q 26 [a,b,c,d]]:=z.aY;have J':=Z.Bh (χ:=kQ t Ls (n++[.pointer (some q)]) (y++[D])) (fun w h1 h2=>h2.eQ (by rw[_b];exact h1)) (Z.rd (Δ:=[rZ q (nF t (Ls.getD k []) D)]) (φ:=fun w=>v7 w q (nF t (Ls.getD k []) D)) (fun _ _ h=>rH h 0 rfl) m);have _t:Z w0 w [X W 3 A S,aZ (re o f),aZ (kQ t Ls (n++[.pointer (some q)]) (y++[D])),X W 3 N (dG (ar t) (f++[S]) (k+1)),X ap 149 C (n++[.pointer (some q)]),X ap 22 F (o++[A]),ak pp 155 [g,C,F],X W 3 g t.vars,ak Q 26 [a,b,c,d]]:=J'.aY;have _u:=Z.Bh (χ:=re (o++[A]) (f++[S])) (fun w h1 h2=>h2.eQ h1) (Z.rd (Δ:=[X W 3 A S]) (φ:=fun w=>RS W w A S) (fun _ _ h=>h.rs 0 rfl) _t)
   exact⟨(k+1,C,F,n++[.pointer (some q)],o++[A],y++[D],f++[S]),⟨rfl,az⟩,aU,⟨B,_r,by simp[V'],by simp[_a],_u.aY⟩,by simp only;omega⟩)
 have H':k=Ls.length:=U;subst H';rw[kV]at hR;refine O ?_;have m:Z w0 w [aZ (kQ t Ls n y),aZ (re o f),X ap 149 H n,X ap 22 K o,ak pp 155 [g,H,K],X W 3 g t.vars]:=Y.aY;have z:=Z.rd (Δ:=[aZ (kQ t Ls n y),aZ (re o f),X ap 149 H n,X ap 22 K o,ak pp 155 [g,H,K],X W 3 g t.vars]) (Γ:=[]) (φ:=fun w=>AB w pp t Ls y f) (fun _ w h=>⟨g,H,K,n,o,h.gn 4 rfl,h.rs 5 rfl,h.rs 2 rfl,h.ct 0 rfl,h.rs 3 rfl,h.ct 1 rfl⟩) m;exact cR (v:=.pointer (some pp)) (v':=.nilIface) rfl rfl rfl (.inr ⟨l,I,V,T',pp,y,f,rfl,hR,z⟩)
end
end Go.Proofs.YtmapkjoefdgjfaaGreatDoor
