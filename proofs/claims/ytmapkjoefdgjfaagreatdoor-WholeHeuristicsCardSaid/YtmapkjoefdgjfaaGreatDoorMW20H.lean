/- Several texts. -/
import Derived.Test.YtmapkjoefdgjfaaGreatDoorMW19H
set_option linter.unusedSimpArgs false
set_option linter.unusedVariables false
set_option linter.defProp false
set_option maxRecDepth 8000
set_option maxHeartbeats 16000000
open List Nat
namespace Go.Proofs.YtmapkjoefdgjfaaGreatDoor
open Go.Sl
variable {t:aa}{v i k u:Nat}{w0 w:World}{a b c d:Value}{vs:List kq}{ss:List Value}
section
open Go.Sl Go
attribute [local irreducible] vc opsW opsD opV opW PureV ReadV Thn Blk
def rY (t:aa)(k:Nat)(v u:Nat):Prop:=∃ op,op<k/\AM (t.M.getD op bz) (u:Int) (v:Int)
def um (o:mM)(j:Nat)(v u:Nat):Prop:=∃ i,i<j/\(o.aQ.getD i bQ).var=v/\(kA o.pre u\/kA (o.aQ.getD i bQ).cb u\/∃ d∈o.aQ,d.var=u)
def quL:rY t (k+1) v u↔rY t k v u\/AM (t.M.getD k bz) (u:Int) (v:Int):=CP
def quM {o:mM}{j:Nat}:um o (j+1) v u↔um o j v u\/((o.aQ.getD j bQ).var=v/\(kA o.pre u\/kA (o.aQ.getD j bQ).cb u\/∃ d∈o.aQ,d.var=u)):=CP
def qxJ {o:mM}:um o o.aQ.length v u↔AM o u v:=by
 constructor
 ·rintro⟨i,f,h1,g⟩
  exact⟨_,cS bQ f,h1,g⟩
 rintro⟨e,he,h1,g⟩;obtain⟨i,f,rfl⟩:=ga he;exact⟨i,f,by rw[aq f];exact⟨h1,g⟩⟩
def WZ {l:List bE}{u:Int}:kA l u↔∃ i,i<l.length/\(l.getD i aD.dflt).var=u:=by
 constructor
 ·rintro⟨f,h,e⟩
  obtain⟨i,g,rfl⟩:=ga h;exact⟨i,g,by rw[aq g];exact e⟩
 rintro⟨i,g,e⟩;exact⟨_,cS aD.dflt g,e⟩
def qAB {l:List mr}{u:Int}:(∃ d∈l,d.var=u)↔∃ i,i<l.length/\(l.getD i bQ).var=u:=by
 constructor
 ·rintro⟨f,h,e⟩
  obtain⟨i,g,rfl⟩:=ga h;exact⟨i,g,by rw[aq g];exact e⟩
 rintro⟨i,g,e⟩;exact⟨_,cS bQ g,e⟩
def W1 {B E_ L F:Prop}:(B\/(E_/\L))\/(E_/\F)↔B\/(E_/\(L\/F)) :=
 ⟨fun h=>h.elim (fun h=>h.elim .inl fun h=>.inr ⟨h.1,.inl h.2⟩) fun h=>.inr ⟨h.1,.inr h.2⟩,fun h=>h.elim (fun h=>.inl (.inl h)) fun⟨h1,e⟩=>e.elim (fun h=>.inl (.inr ⟨h1,h⟩)) fun h=>.inr ⟨h1,h⟩⟩
def qxK {K D E_ f P g X':Prop}(e:E_↔f):((K\/D)\/(E_/\(P\/g)))\/(E_/\X')↔K\/D\/(f/\(P\/g\/X')):=by
 rw[W1,or_assoc,<-e,or_assoc]
def qm5 (ht:bR w0 a b c d vs t)(I:aJ t) :
  Calls ak 134 #[.agg #[a,b,c,d]] w0 fun e w'=>∃ out ss M',e=.returned out/\MI M' t.vars.length (fun v u=>sW t (u:Int) (v:Int))/\Z w0 w' [ai ah 4 ss M',X aA 140 out ss]:=by
 obtain⟨ha,hb,hc,hd⟩:=ht;have _c:=hd.rs;have _q:=hd.len;have _r:=_c.cn;have _s:=ha.cn;have hV:=I.vars;have Y:=Z.start w0;refine bI ar Tryz.func134 ?_
 repeat (first|refine dS ?_|(refine iT ?_;clear Y;intro p w Y)|(refine gA ?_;clear Y;intro s w Y))
 obtain⟨B,rfl⟩:=À p;obtain⟨out,rfl⟩:=À s;have Y:=Y.iJ (T:=ah) (e:=4) t.vars.length;rw[<-QS]at Y;obtain⟨ss,V⟩:=À (replicate t.vars.length (nS));have F:ss.length=t.vars.length:=by rw[V];simp
 have g:Z w0 w [ai ah 4 ss (tV t.vars.length 0),X aA 140 out ss,am B 26 [a,b,c,d]]:=by rw[V];exact Y
 clear Y V;have _d:(replicate (↑t.vars.length:Int).toNat (nS)).length=t.vars.length:=sm;refine dP [4,4,22,32] (G:=Nat) (H:=List Value) (fun k _=>[(22,E k)]) (fun k ss w=>k<=t.vars.length/\ss.length=t.vars.length/\Z w0 w [ai ah 4 ss (tV t.vars.length k),X aA 140 out ss,am B 26 [a,b,c,d]]) (fun k _=>t.vars.length-k) 0 ss (fun _ _=>rfl) ⟨rfl,az⟩ ⟨bC _,F,g⟩ ?_;clear g F ss;rintro σ k ss w ⟨hk,F,Y⟩;refine aC ?_ ?_<;>intro h1
 ·refine kO ?_;clear Y;intro s w Y
  replace Y:=Z.tn (i:=k) (by rw[QR];omega) Y;rw[jU,QU]at Y;exact⟨k+1,_,⟨rfl,az⟩,aX,⟨U,by rw[iU];exact F,Y⟩,U⟩
 have j':k=t.vars.length:=U;subst j';rw[QT]at Y;refine O ?_;clear _d h1;refine dP [6,6,8,8,10,10,12,12,14,14,36,90] (G:=Nat) (H:=List (List Bool)) (fun k _=>[(36,E k)]) (fun k M' w=>k<=t.M.length/\MI M' t.vars.length (rY t k)/\Z w0 w [ai ah 4 ss M',X aA 140 out ss,am B 26 [a,b,c,d]]) (fun k _=>t.M.length-k) 0 _ (fun _ _=>rfl) ⟨rfl,az⟩ ⟨bC _,(MI.rep t.vars.length).congr fun v u _ _=>⟨False.elim,fun⟨op,h,_⟩=>absurd h (eo _)⟩,Y⟩ ?_;clear Y hk;rintro σ k M' w ⟨hk,n,Y⟩;refine aC ?_ ?_<;>intro h1
 ·have P':k<t.M.length:=U
  have H':=hd.eI k P';have _l:=H'.one;have C:=I.op k P';have y:=H'.pre;have _e:=y.cn;obtain⟨es,K⟩:=H'.aQ;have R':=K.rs;have _m:=K.len;have _n:=R'.cn;refine ep ?_;clear Y;intro P w Y;have g:Z w0 w [ai ah 4 ss M',X aA 140 out ss,am P 44 (cN.enc (aB cN vs k)),am B 26 [a,b,c,d]]:=Y.bj;clear Y;refine dP [8,8,10,10,12,12,14,14,43,89] (G:=Nat) (H:=List (List Bool)) (fun j _=>[(43,E j)]) (fun j M' w=>j<=(t.M.getD k bz).aQ.length/\MI M' t.vars.length (fun v u=>rY t k v u\/um (t.M.getD k bz) j v u)/\Z w0 w [ai ah 4 ss M',X aA 140 out ss,am P 44 (cN.enc (aB cN vs k)),am B 26 [a,b,c,d]]) (fun j _=>(t.M.getD k bz).aQ.length-j) 0 M' (fun _ _=>rfl) ⟨rfl,az⟩ ⟨bC _,n.congr fun v u _ _=>⟨.inl,fun h=>h.elim id fun⟨i,h,_⟩=>absurd h (eo _)⟩,g⟩ ?_;clear g n M';rintro _f j M' w ⟨hj,n,Y⟩;refine aC ?_ ?_<;>intro Q
  ·have T':j<(t.M.getD k bz).aQ.length:=U
   have J':=K.eI j T';have _t:=J'.one;have _u:=J'.var;have L:=J'.cb;have _o:=L.cn;have _v:=L.one;have _w:=y.one;have R:=C.fS j T';have _x:=uW R;refine ep ?_;clear Y;intro pe w Y
   repeat refine dS ?_
   have c1:=y.fu;have c2:=L.fu;have z1:(aB cN vs k).pre.cells.size=1:=by have:=uZ List.length c1;simpa using this
   have z2:(aB bm es j).cb.cells.size=1:=by have:=uZ List.length c2;simpa using this
   refine D3 (T:=aA) [(aB cN vs k).pre,(aB bm es j).cb] [(aB cN vs k).pre,(aB bm es j).cb] rfl (by simp[c1,c2,aA]) (by simp[z1,z2]) rfl rfl (fP rfl) (fg _) (fP rfl) Y ?_;clear Y;intro ls w Y;refine O ?_;have g:Z w0 w [ai ah 4 ss M',X aA 140 out ss,X aA 23 ls [(aB cN vs k).pre,(aB bm es j).cb],am pe 61 (bm.enc (aB bm es j)),am P 44 (cN.enc (aB cN vs k)),am B 26 [a,b,c,d]]:=Y.bj;clear Y;obtain⟨o,V'⟩:∃ o:Nat,((t.M.getD k bz).aQ.getD j bQ).var=(o:Int):=⟨((t.M.getD k bz).aQ.getD j bQ).var.toNat,U⟩
   have z:o<t.vars.length:=U;refine dP [10,10,12,12,53,72] (G:=Nat) (H:=List (List Bool)) (fun m _=>[(53,E m)]) (fun m M' w=>m<=2/\MI M' t.vars.length (fun v u=>(rY t k v u\/um (t.M.getD k bz) j v u)\/(v=o/\((0<m/\kA (t.M.getD k bz).pre (u:Int))\/(1<m/\kA ((t.M.getD k bz).aQ.getD j bQ).cb (u:Int)))))/\Z w0 w [ai ah 4 ss M',X aA 140 out ss,X aA 23 ls [(aB cN vs k).pre,(aB bm es j).cb],am pe 61 (bm.enc (aB bm es j)),am P 44 (cN.enc (aB cN vs k)),am B 26 [a,b,c,d]]) (fun m _=>2-m) 0 M' (fun _ _=>rfl) ⟨rfl,az⟩ ⟨bC _,n.congr fun v u _ _=>⟨.inl,fun h=>h.elim id fun hh=>hh.2.elim (fun h=>absurd h.1 (eo _)) fun h=>absurd h.1 (eo _)⟩,g⟩ ?_;clear g n M';rintro _y m M' w ⟨hm,n,Y⟩;refine aC ?_ ?_<;>intro h3
   ·have _a:m<2:=by simp at h3;omega
    obtain⟨A,fv,_g,_h,S⟩:∃ A fv,cL [(aB cN vs k).pre,(aB bm es j).cb] m=fv/\RS aD w0 fv A/\(∀ x∈A,bV t.vars x)/\∀ u:Nat,(((0<m+1/\kA (t.M.getD k bz).pre (u:Int))\/(1<m+1/\kA ((t.M.getD k bz).aQ.getD j bQ).cb (u:Int)))↔(((0<m/\kA (t.M.getD k bz).pre (u:Int))\/(1<m/\kA ((t.M.getD k bz).aQ.getD j bQ).cb (u:Int))))\/kA A u):=by
     have:m=0\/m=1:=U;rcases this with rfl|rfl
     ·exact⟨(t.M.getD k bz).pre,_,by rw[qL];rfl,y,Ad C.pre,fun u=>sm⟩
     exact⟨((t.M.getD k bz).aQ.getD j bQ).cb,_,by rw[qL];rfl,L,Ad R.1,fun u=>sm⟩
    have _p:=_h.cn;refine O ?_;rw[_g];obtain⟨_i,S⟩:=S;refine O ?_;refine dP [12,12,59,71] (G:=Nat) (H:=List (List Bool)) (fun i _=>[(59,E i)]) (fun i M' w=>i<=A.length/\MI M' t.vars.length (fun v u=>((rY t k v u\/um (t.M.getD k bz) j v u)\/(v=o/\((0<m/\kA (t.M.getD k bz).pre (u:Int))\/(1<m/\kA ((t.M.getD k bz).aQ.getD j bQ).cb (u:Int)))))\/(v=o/\∃ i',i'<i/\(A.getD i' aD.dflt).var=(u:Int)))/\Z w0 w [ai ah 4 ss M',X aA 140 out ss,X aA 23 ls [(aB cN vs k).pre,(aB bm es j).cb],am pe 61 (bm.enc (aB bm es j)),am P 44 (cN.enc (aB cN vs k)),am B 26 [a,b,c,d]]) (fun i _=>A.length-i) 0 M' (fun _ _=>rfl) ⟨rfl,az⟩ ⟨bC _,n.congr fun v u _ _=>⟨.inl,fun h=>h.elim id fun⟨_,i',h,_⟩=>absurd h (eo _)⟩,Y⟩ ?_;clear Y n M';rintro _j i M' w ⟨hi,n,Y⟩;refine aC ?_ ?_<;>intro h4
    ·have q:i<A.length:=U
     have D:=_i _ (cS aD.dflt q);unfold bV at D;have hlen:=n.len;have _k:o<M'.length:=U;have N:=n.row o z;have r:(aB bm es j).var.toNat=o:=U;refine dj ?_;clear Y;intro p w Y;have g:Z w0 w [ai ah 4 ss M',X aA 140 out ss,am p 63 (aD.enc (A.getD i aD.dflt)),X aA 23 ls [(aB cN vs k).pre,(aB bm es j).cb],am pe 61 (bm.enc (aB bm es j)),am P 44 (cN.enc (aB cN vs k)),am B 26 [a,b,c,d]]:=Y.bj;clear Y;have _b:=g.bU;have Y:=g.ja (i:=(aB bm es j).var.toNat) U;clear g;rw[<-r]at N;refine dD ?_;clear Y;intro w Y;replace Y:=Z.oh (i:=(aB bm es j).var.toNat) U U Y;rw[r]at Y;change Z w0 w (ai ah 4 ss (mC M' o (A.getD i aD.dflt).var.toNat true)::_) at Y;refine⟨i+1,mC M' o (A.getD i aD.dflt).var.toNat true,⟨rfl,az⟩,aX,⟨U,?_,Y.bj⟩,U⟩;exact(n.xp (v:=o) (u:=(A.getD i aD.dflt).var.toNat) z U).congr fun v u _ _=>by
      rw[CP];refine or_assoc.trans (or_congr zI ?_);exact⟨fun h=>h.elim (fun h=>⟨h.1,.inl h.2⟩) fun h=>⟨h.1,.inr U⟩,fun⟨h1,Q⟩=>Q.elim (fun h=>.inl ⟨h1,h⟩) fun h=>.inr ⟨h1,U⟩⟩
    have D:i=A.length:=U;subst D;refine O ?_;exact⟨m+1,M',⟨rfl,az⟩,aX,⟨U,n.congr fun v u _ _=>by rw[S u,WZ (l:=A)];exact W1,Y⟩,U⟩
   have _a:m=2:=by simp at h3;omega
   subst _a;have A:MI M' t.vars.length (fun v u=>(rY t k v u\/um (t.M.getD k bz) j v u)\/(v=o/\(kA (t.M.getD k bz).pre (u:Int)\/kA ((t.M.getD k bz).aQ.getD j bQ).cb (u:Int)))):=n.congr fun v u _ _=>sm;clear n;refine O ?_;refine dP [14,14,76,88] (G:=Nat) (H:=List (List Bool)) (fun i _=>[(76,E i)]) (fun i M' w=>i<=(t.M.getD k bz).aQ.length/\MI M' t.vars.length (fun v u=>((rY t k v u\/um (t.M.getD k bz) j v u)\/(v=o/\(kA (t.M.getD k bz).pre (u:Int)\/kA ((t.M.getD k bz).aQ.getD j bQ).cb (u:Int))))\/(v=o/\∃ i',i'<i/\((t.M.getD k bz).aQ.getD i' bQ).var=(u:Int)))/\Z w0 w [ai ah 4 ss M',X aA 140 out ss,am pe 61 (bm.enc (aB bm es j)),am P 44 (cN.enc (aB cN vs k)),am B 26 [a,b,c,d]]) (fun i _=>(t.M.getD k bz).aQ.length-i) 0 M' (fun _ _=>rfl) ⟨rfl,az⟩ ⟨bC _,A.congr fun v u _ _=>⟨.inl,fun h=>h.elim id fun⟨_,i',h,_⟩=>absurd h (eo _)⟩,Y.bj⟩ ?_;clear Y A M';rintro _j i M' w ⟨hi,n,Y⟩;refine aC ?_ ?_<;>intro h4
   ·have q:i<(t.M.getD k bz).aQ.length:=U
    have S:=K.eI i q;have _g:=S.one;have _h:=S.var;have _i:=uW (C.fS i q);have hlen:=n.len;have _k:o<M'.length:=U;have N:=n.row o z;have r:(aB bm es j).var.toNat=o:=U;refine dj ?_;clear Y;intro p w Y;have g:Z w0 w [ai ah 4 ss M',X aA 140 out ss,am p 61 (bm.enc (aB bm es i)),am pe 61 (bm.enc (aB bm es j)),am P 44 (cN.enc (aB cN vs k)),am B 26 [a,b,c,d]]:=Y.bj;clear Y;have _b:=g.bU;have Y:=g.ja (i:=(aB bm es j).var.toNat) U;clear g;rw[<-r]at N;refine dD ?_;clear Y;intro w Y;replace Y:=Z.oh (i:=(aB bm es j).var.toNat) U U Y;rw[r]at Y;change Z w0 w (ai ah 4 ss (mC M' o (aB bm es i).var.toNat true)::_) at Y;refine⟨i+1,mC M' o (aB bm es i).var.toNat true,⟨rfl,az⟩,aX,⟨U,?_,Y.bj⟩,U⟩;exact(n.xp (v:=o) (u:=(aB bm es i).var.toNat) z U).congr fun v u _ _=>by
     rw[CP];refine or_assoc.trans (or_congr zI ?_);exact⟨fun h=>h.elim (fun h=>⟨h.1,.inl h.2⟩) fun h=>⟨h.1,.inr U⟩,fun⟨h1,Q⟩=>Q.elim (fun h=>.inl ⟨h1,h⟩) fun h=>.inr ⟨h1,U⟩⟩
   have D:i=(t.M.getD k bz).aQ.length:=U;subst D;refine O ?_;exact⟨j+1,M',⟨rfl,az⟩,aX,⟨U,n.congr fun v u _ _=>by rw[quM,V',qAB];exact qxK U,Y.bj⟩,U⟩
  have o:j=(t.M.getD k bz).aQ.length:=U;subst o;refine O ?_;exact⟨k+1,M',⟨rfl,az⟩,aX,⟨U,n.congr fun v u _ _=>by rw[quL,qxJ],Y.bj⟩,U⟩
 have j':k=t.M.length:=U;subst j';have j:=n.len;have f:=Y.bU;have A:MI M' t.vars.length (fun v u=>rY t t.M.length v u/\¬(v<0/\u=v)):=n.congr fun v u _ _=>⟨fun h=>⟨h,fun h=>absurd h.1 (eo _)⟩,fun h=>h.1⟩
 clear n;refine O ?_;refine dP [15,15,93,102] (G:=Nat) (H:=List (List Bool)) (fun i _=>[(93,E i)]) (fun i M' w=>i<=t.vars.length/\MI M' t.vars.length (fun v u=>rY t t.M.length v u/\¬(v<i/\u=v))/\Z w0 w [ai ah 4 ss M',X aA 140 out ss,am B 26 [a,b,c,d]]) (fun i _=>t.vars.length-i) 0 M' (fun _ _=>rfl) ⟨rfl,az⟩ ⟨bC _,A,Y⟩ ?_;clear Y A j f M';rintro _f i M' w ⟨hi,n,Y⟩;have j:=n.len;have f:=Y.bU;refine aC ?_ ?_<;>intro o
 ·have q:i<t.vars.length:=U
  have N:=n.row i q;replace Y:=Y.ja (i:=i) U;refine dD ?_;clear Y;intro w Y;replace Y:=Z.oh (i:=i) U U Y;refine⟨i+1,_,⟨rfl,az⟩,aX,⟨U,?_,Y⟩,U⟩
  exact(n.O6 (v:=i) (u:=i) q q).congr fun v u _ _=>⟨fun h=>⟨h.1.1,fun hh=>by
   by_cases e:v=i
   ·exact h.2 ⟨e,U⟩
   exact h.1.2 ⟨U,hh.2⟩⟩,fun h=>⟨⟨h.1,fun hh=>h.2 ⟨U,hh.2⟩⟩,fun hh=>h.2 ⟨U,U⟩⟩⟩
 have D:i=t.vars.length:=U;subst D;refine O ?_;refine bo (v:=out) rfl rfl ⟨out,ss,M',rfl,n.congr fun v u hv hu=>?_,Y.bj⟩;constructor
 ·rintro⟨h1,Q⟩
  exact⟨fun e=>Q ⟨hv,U⟩,h1⟩
 rintro⟨h1,Q⟩;exact⟨Q,fun hh=>h1 U⟩
def qn7 (t:aa)(u:Nat):gh t u 0=[]:=wY (cP _)
def quR (h:sW t (u:Int) (v:Int)):gh t u (v+1)=gh t u v++[⟨(u:Int),(v:Int),1⟩]:=by
 unfold gh;rw[sG (bC _),ba h]
def qrh (h:¬sW t (u:Int) (v:Int)):gh t u (v+1)=gh t u v:=by
 unfold gh;rw[sG (bC _),aM h,gj]
def qn8 (t:aa)(u:Nat):bK t (u+1)=bK t u++gh t u t.vars.length:=by
 unfold bK;rw[sG (bC _)]
def qvR (C:bR w0 a b c d vs t)(I:aJ t) :
  Calls ak 99 #[.agg #[a,b,c,d]] w0 fun e w'=>∃ f,e=.returned (.tuple #[f,.nilIface])/\Z w0 w' [X bO 181 f (bK t t.vars.length)]:=by
 have n:=C;obtain⟨L,x,hc,hd⟩:=C;have N:=L.cn;have P:=I.vars;have Y:=Z.start w0;refine bI ar Tryz.func99 ?_;refine ep ?_;intro r w Y;refine aR rfl (xL (n.at Y)) ?_;rintro _ w' ⟨rfl,aw⟩;refine aL ?_;clear aw Y;intro Y;rw[ff ((tE t).2 I)];refine O ?_;refine aR rfl (qm5 (n.at Y) I) ?_;rintro _ w' ⟨out,ss,m,rfl,z,aw⟩;refine kl ?_;clear aw Y;intro Y;have Q:=z.len;refine O ?_;have j:Z w0 w' [X bO 181 (nS) (bK t 0),ai ah 4 ss m,X aA 140 out ss,am r 26 [a,b,c,d]]:=Y.nil (T:=bO) (e:=181);clear Y;refine dP [6,8,19,42] (G:=Nat) (H:=Value) (fun u f=>[(19,E u),(6,f)]) (fun u f w=>u<=t.vars.length/\Z w0 w [X bO 181 f (bK t u),ai ah 4 ss m,X aA 140 out ss,am r 26 [a,b,c,d]]) (fun u _=>t.vars.length-u) 0 (nS) (fun _ _=>rfl) ⟨rfl,rfl,az⟩ ⟨bC _,j⟩ ?_;clear j;rintro σ u f w ⟨hu,Y⟩;refine aC ?_ ?_<;>intro h1
 ·have A:u<t.vars.length:=U
  have R:=QW t u;have D:u*t.vars.length<=64*64:=xc U P;refine O ?_;have j:Z w0 w [X bO 181 f (bK t u++gh t u 0),ai ah 4 ss m,X aA 140 out ss,am r 26 [a,b,c,d]]:=by rw[qn7,gj];exact Y
  clear Y;refine dP [6,6,8,8,25,41] (G:=Nat) (H:=Value) (fun v f=>[(25,E v),(6,f)]) (fun v f w=>v<=t.vars.length/\Z w0 w [X bO 181 f (bK t u++gh t u v),ai ah 4 ss m,X aA 140 out ss,am r 26 [a,b,c,d]]) (fun v _=>t.vars.length-v) 0 f (fun _ _=>rfl) ⟨rfl,rfl,az⟩ ⟨bC _,j⟩ ?_;clear j;rintro S v l w ⟨hv,Y⟩;have V:=Y.tail.bU;refine aC ?_ ?_<;>intro h2
  ·have o:v<t.vars.length:=U
   have q:=Y.tail.row (i:=v) U;have j':=z.row v o;have B:=z.eI v u o A;have F:=QV t u v;have K:(bK t u++gh t u v).length<=8192:=by rw[length_append];omega
   refine rK ?_;have g:(m.getD v []).getD u ah.dflt=true↔sW t (u:Int) (v:Int):=B
   cases x:(m.getD v []).getD u ah.dflt with
   | false =>
    rw[x]at g;refine O ?_
    exact⟨v+1,l,⟨rfl,rfl,az⟩,aX,⟨U,by rw[qrh (fun h=>by have:=g.2 h;cases this)];exact Y⟩,U⟩
   | true =>
    rw[x]at g;refine O ?_;refine jA bO (x1:=⟨(u:Int),(v:Int),1⟩) rfl rfl rfl (fP rfl) (fg _) Y ?_;clear Y q;intro bs w Y
    refine sF (s:=l) (s2:=bs) inferInstance rfl rfl (bB Y) rfl rfl (fun y hy v hv=>by
     rw[fU.1 hy]at hv;simp only[bO,gT,jd,pQ]at hv
     rcases hv with rfl|rfl|rfl<;>rfl) (by simp only[length_cons,length_nil];omega) (by unfold cn;simp only[length_cons,length_nil];omega) Y ?_
    clear Y;intro s' w Y;refine O ?_;refine⟨v+1,s',⟨rfl,rfl,az⟩,aX,⟨U,?_⟩,U⟩;rw[quR (g.1 rfl),<-fk];exact Y.tail
  have g:v=t.vars.length:=U;subst g;rw[<-qn8]at Y;refine O ?_;exact⟨u+1,l,⟨rfl,rfl,az⟩,aX,⟨U,Y⟩,U⟩
 have g:u=t.vars.length:=U;subst g;refine O ?_;exact dw (v:=f) (v':=.nilIface) rfl rfl rfl ⟨f,rfl,Y.bj⟩
def mW (t:aa)(v:Nat):Prop:=∃ f∈t.aF,f.var=(v:Int)
def qwG:mW t v↔∃ i,i<t.aF.length/\(t.aF.getD i aD.dflt).var=(v:Int):=WZ
def W2 {a:Nat}:qf t [(a:Int)]↔mW t a:=by
 constructor
 ·rintro⟨⟨v,hv,h⟩,_⟩
  rw[fU.1 hv]at h;exact h
 exact fun h=>⟨⟨a,mem_singleton_self _,h⟩,Yt⟩
def qzM {a b:Nat}:qf t [(a:Int),(b:Int)]↔(mW t a\/mW t b)/\eM t a b:=by
 unfold qf;rw[Yu];refine and_congr ?_ zI;unfold yL mW;simp[or_and_right,exists_or]
def qsZ {a b c:Nat}:qf t [(a:Int),(b:Int),(c:Int)]↔(mW t a\/mW t b\/mW t c)/\((eM t a b/\eM t b c)\/(eM t a b/\eM t a c)\/(eM t a c/\eM t b c)):=by
 unfold qf;rw[Yv];refine and_congr ?_ zI;unfold yL mW;simp[or_and_right,exists_or]
def qs0 {x y:Nat}(hx:x<t.vars.length)(j:y<t.vars.length):(∃ i,i<(bK t t.vars.length).length/\(((bK t t.vars.length).getD i bO.dflt).br=(x:Int)/\((bK t t.vars.length).getD i bO.dflt).dst=(y:Int)\/((bK t t.vars.length).getD i bO.dflt).dst=(x:Int)/\((bK t t.vars.length).getD i bO.dflt).br=(y:Int)))↔eM t x y:=by
 constructor
 ·rintro⟨i,f,h⟩
  obtain⟨u,v,_,_,l,e⟩:=HX.1 (cS bO.dflt f);rw[e]at h;simp only at h;rcases h with ⟨h1,g⟩|⟨h1,g⟩
  ·exact .inl (by rw[<-h1,<-g];exact l)
  exact .inr (by rw[<-h1,<-g];exact l)
 rintro (h|h)
 ·obtain⟨i,f,e⟩:=ga (HX.2 ⟨x,y,hx,j,h,rfl⟩)
  exact⟨i,f,by rw[aq f,e];exact .inl ⟨rfl,rfl⟩⟩
 obtain⟨i,f,e⟩:=ga (HX.2 ⟨y,x,j,hx,h,rfl⟩);exact⟨i,f,by rw[aq f,e];exact .inr ⟨rfl,rfl⟩⟩
def fA (size:Int):Nat:=(max 1 (min size 3)).toNat
def qs1 (size:Int):1<=fA size/\fA size<=3:=by unfold fA;omega
def qij {size:Int}(ht:bR w0 a b c d vs t)(I:aJ t)(V:t.vars.length<=12) :
  Calls ak 79 #[.agg #[a,b,c,d],E size] w0 fun e w'=>∃ m os,e=.returned (.tuple #[m,.nilIface])/\Z w0 w' [ai W 3 os (gE t (fA size)),X aA 22 m os]:=by
 have _s:=ht;obtain⟨ha,hb,hc,hd⟩:=ht;have _y:=ha.cn;have _z:=hc.cn;have Y:=Z.start w0;refine bI ar Tryz.func79 ?_;refine ep ?_;clear Y;intro r w Y;refine aR rfl (qvR (_s.at Y) I) ?_;rintro _ w' ⟨av,rfl,aw⟩;refine aO ?_;clear aw Y;intro Y;have _A:=QW t t.vars.length;have _v:t.vars.length*t.vars.length<=12*12:=xc V V;have _f:∀ i,i<(bK t t.vars.length).length->(0<=((bK t t.vars.length).getD i bO.dflt).br/\((bK t t.vars.length).getD i bO.dflt).br<t.vars.length)/\(0<=((bK t t.vars.length).getD i bO.dflt).dst/\((bK t t.vars.length).getD i bO.dflt).dst<t.vars.length):=fun i hi=>by
  obtain⟨u,v,hu,hv,_,e⟩:=HX.1 (cS bO.dflt hi);rw[e];simp only;omega
 refine kO ?_;clear Y;intro s w Y;obtain⟨out,rfl⟩:=À s;have Y:=Y.iJ (T:=ah) (e:=4) t.vars.length;rw[<-QS]at Y;obtain⟨ss,R'⟩:=À (replicate t.vars.length (nS));have j':ss.length=t.vars.length:=by rw[R'];simp
 have f:Z w0 w [ai ah 4 ss (tV t.vars.length 0),X aA 140 out ss,X bO 181 av (bK t t.vars.length),am r 26 [a,b,c,d]]:=by rw[R'];exact Y
 clear Y R';have T':(replicate (↑t.vars.length:Int).toNat (nS)).length=t.vars.length:=sm;refine dP [10,10,39,47] (G:=Nat) (H:=List Value) (fun k _=>[(39,E k)]) (fun k ss w=>k<=t.vars.length/\ss.length=t.vars.length/\Z w0 w [ai ah 4 ss (tV t.vars.length k),X aA 140 out ss,X bO 181 av (bK t t.vars.length),am r 26 [a,b,c,d]]) (fun k _=>t.vars.length-k) 0 ss (fun _ _=>rfl) ⟨rfl,az⟩ ⟨bC _,j',f⟩ ?_;clear f j' ss;rintro σ k ss w ⟨hk,j',Y⟩;refine aC ?_ ?_<;>intro h1
 ·refine kO ?_;clear Y;intro s w Y
  replace Y:=Z.tn (i:=k) (by rw[QR];omega) Y;rw[jU,QU]at Y;exact⟨k+1,_,⟨rfl,az⟩,aX,⟨U,by rw[iU];exact j',Y⟩,U⟩
 have B:k=t.vars.length:=U;subst B;rw[QT]at Y;clear T' h1;refine O ?_;refine dP [12,12,50,70] (G:=Nat) (H:=List (List Bool)) (fun k _=>[(50,E k)]) (fun k n w=>k<=(bK t t.vars.length).length/\MI n t.vars.length (fun x y=>(∃ i,i<k/\(((bK t t.vars.length).getD i bO.dflt).br=(x:Int)/\((bK t t.vars.length).getD i bO.dflt).dst=(y:Int)\/((bK t t.vars.length).getD i bO.dflt).dst=(x:Int)/\((bK t t.vars.length).getD i bO.dflt).br=(y:Int))))/\Z w0 w [ai ah 4 ss n,X aA 140 out ss,X bO 181 av (bK t t.vars.length),am r 26 [a,b,c,d]]) (fun k _=>(bK t t.vars.length).length-k) 0 _ (fun _ _=>rfl) ⟨rfl,az⟩ ⟨bC _,(MI.rep t.vars.length).congr fun v u _ _=>⟨False.elim,fun⟨op,h,_⟩=>absurd h (eo _)⟩,Y⟩ ?_;clear Y hk;rintro σ k n w ⟨hk,hM,Y⟩;refine aC ?_ ?_<;>intro h1
 ·have j:k<(bK t t.vars.length).length:=U
  have D:=_f k j;have hlen:=hM.len;have A:=Y.bU;refine dj ?_;clear Y;intro p w Y;refine gi (pl [0,1,2,3,4,5,6,7,8,9,10,11,12,13,14,15] (.cY 13::pl [16,17] [])) Y kr ?_;clear Y;intro w Y;refine O ?_;have f:Z w0 w [ai ah 4 ss n,X aA 140 out ss,am p 181 (bO.enc ((bK t t.vars.length).getD k bO.dflt)),X bO 181 av (bK t t.vars.length),am r 26 [a,b,c,d]]:=Y.bj;clear Y;have _a:=hM.row ((bK t t.vars.length).getD k bO.dflt).br.toNat U;have Y:=f.ja (i:=((bK t t.vars.length).getD k bO.dflt).br.toNat) U;clear f;refine jD ?_;clear Y;intro w Y;replace Y:=Z.oh (i:=((bK t t.vars.length).getD k bO.dflt).br.toNat) U U Y;have o:=hM.xp (v:=((bK t t.vars.length).getD k bO.dflt).br.toNat) (u:=((bK t t.vars.length).getD k bO.dflt).dst.toNat) U U;obtain⟨C,q⟩:=À (mC n ((bK t t.vars.length).getD k bO.dflt).br.toNat ((bK t t.vars.length).getD k bO.dflt).dst.toNat true);rw[<-q]at o;change Z w0 w (ai ah 4 ss (mC n ((bK t t.vars.length).getD k bO.dflt).br.toNat ((bK t t.vars.length).getD k bO.dflt).dst.toNat true)::_) at Y;rw[<-q]at Y;have z:=o.len;have _g:=o.row ((bK t t.vars.length).getD k bO.dflt).dst.toNat U;replace Y:=Y.ja (i:=((bK t t.vars.length).getD k bO.dflt).dst.toNat) U;refine jD ?_;clear Y;intro w Y;replace Y:=Z.oh (i:=((bK t t.vars.length).getD k bO.dflt).dst.toNat) U U Y
  change Z w0 w (ai ah 4 ss (mC C ((bK t t.vars.length).getD k bO.dflt).dst.toNat ((bK t t.vars.length).getD k bO.dflt).br.toNat true)::_) at Y;refine O ?_;refine⟨k+1,mC C ((bK t t.vars.length).getD k bO.dflt).dst.toNat ((bK t t.vars.length).getD k bO.dflt).br.toNat true,⟨rfl,az⟩,aX,⟨U,?_,Y.bj⟩,U⟩;exact(o.xp (v:=((bK t t.vars.length).getD k bO.dflt).dst.toNat) (u:=((bK t t.vars.length).getD k bO.dflt).br.toNat) U U).congr fun x y _ _=>by
   rw[CP,or_assoc];refine or_congr zI (or_congr ⟨fun h=>⟨U,U⟩,fun h=>⟨U,U⟩⟩ ⟨fun h=>⟨U,U⟩,fun h=>⟨U,U⟩⟩)
 have B:k=(bK t t.vars.length).length:=U;subst B;have hN:MI n t.vars.length (fun x y=>eM t (x:Int) (y:Int)):=hM.congr fun x y hx hy=>qs0 hx hy;clear hM;have _B:=hN.len;refine kO ?_;clear Y;intro s w Y;obtain⟨gv,rfl⟩:=À s;rw[jU]at Y;refine dP [15,15,76,84] (G:=Nat) (H:=List Bool) (fun k _=>[(76,E k)]) (fun k G w=>k<=t.aF.length/\VI G t.vars.length (fun x=>(∃ i,i<k/\(t.aF.getD i aD.dflt).var=(x:Int)))/\Z w0 w [X ah 4 gv G,ai ah 4 ss n,X aA 140 out ss,am r 26 [a,b,c,d]]) (fun k _=>t.aF.length-k) 0 _ (fun _ _=>rfl) ⟨rfl,az⟩ ⟨bC _,(VI.rep t.vars.length).congr fun v _=>⟨False.elim,fun⟨op,h,_⟩=>absurd h (eo _)⟩,Y.bj⟩ ?_;clear Y hk;rintro σ k G w ⟨hk,hG,Y⟩;have _C:=hG.len;refine aC ?_ ?_<;>intro h1
 ·have j:k<t.aF.length:=U
  have o:=Ad I.aF _ (cS aD.dflt j);unfold bV at o;refine ep ?_;clear Y;intro p w Y;refine⟨k+1,_,⟨rfl,az⟩,aX,⟨U,?_,Y.tail⟩,U⟩;exact(hG.xp (u:=(t.aF.getD k aD.dflt).var.toNat) U).congr fun x _=>by
   rw[CP];exact or_congr zI ⟨fun h=>U,fun h=>U⟩
 have B:k=t.aF.length:=U;subst B;have hV:VI G t.vars.length (mW t):=hG.congr fun x _=>qwG.symm;clear hG hk h1;obtain⟨K,_h⟩:=À (fA size);have _i:=qs1 size;rw[<-_h]at _i ⊢;have H':(if (if 3<size then 3 else size)>1 then if 3<size then 3 else size else 1)=(K:Int):=by rw[_h];unfold fA;split<;>split at*<;> omega
 refine O ?_;have f:Z w0 w [ai W 3 [] (wc t 0),X aA 22 (nS) [],X ah 4 gv G,ai ah 4 ss n,X aA 140 out ss,am r 26 [a,b,c,d]]:=Y.nil.pH;clear Y;refine pu [16,17,89,101] (G:=Nat) (H:=Value) (I':=List Value) (fun k m _=>[(89,E k),(16,m)]) (fun k m os w=>k<=t.vars.length/\Z w0 w [ai W 3 os (wc t k),X aA 22 m os,X ah 4 gv G,ai ah 4 ss n,X aA 140 out ss,am r 26 [a,b,c,d]]) (fun k _ _=>t.vars.length-k) 0 (nS) [] (fun _ _ _=>rfl) ⟨rfl,rfl,az⟩ ⟨bC _,f⟩ ?_;clear f;rintro σ k m os w ⟨hk,Y⟩;refine aC ?_ ?_<;>intro h1
 ·have j:k<t.vars.length:=U
  have o:=hV.eI k j;have hlen:=QP (t:=t) V (k:=k) U;have J':=Y.bU;have z:wc t (k+1)=wc t k++wZ t [(k:Int)]:=by unfold wc;rw[sG (bC k)]
  refine rK ?_
  cases hb:G.getD k ah.dflt with
  | false =>
   rw[show G.getD k false=false from hb]at o;refine O ?_
   exact⟨k+1,m,os,⟨rfl,rfl,az⟩,aX,⟨U,by rw[z,Li (fun h=>by have:=o.2 (W2.1 h);cases this),gj];exact Y⟩,U⟩
  | true =>
   rw[show G.getD k false=true from hb]at o
   repeat (first|refine dS ?_|(refine gA ?_;clear Y;intro s w Y))
   exact⟨k+1,_,_,⟨rfl,rfl,az⟩,aX,⟨U,by rw[z,Lh (W2.2 (o.1 rfl))];exact Y.tail.jv⟩,U⟩
 have B:k=t.vars.length:=U;subst B;have _t:=QP (t:=t) V (cP _);have L:we t t.vars.length 0=[]:=wY (cP _);have f:Z w0 w [ai W 3 os (wc t t.vars.length++we t t.vars.length 0),X aA 22 m os,X ah 4 gv G,ai ah 4 ss n,X aA 140 out ss,am r 26 [a,b,c,d]]:=by rw[L,gj];exact Y
 clear Y h1 hk;refine O ?_;refine pu [16,16,18,19,102,142] (G:=Nat) (H:=Value) (I':=List Value) (fun k m _=>[(18,E k),(16,m)]) (fun k m os w=>k<=t.vars.length/\(2<=K\/k=0)/\Z w0 w [ai W 3 os (wc t t.vars.length++we t t.vars.length k),X aA 22 m os,X ah 4 gv G,ai ah 4 ss n,X aA 140 out ss,am r 26 [a,b,c,d]]) (fun k _ _=>t.vars.length-k) 0 m os (fun _ _ _=>rfl) ⟨rfl,rfl,az⟩ ⟨bC _,.inr rfl,f⟩ ?_;clear f;rintro _D k m os w ⟨hk,_j,Y⟩;have D:=Y.bU;refine aC ?_ ?_<;>intro h1
 ·rw[H']at h1
  have q:k<t.vars.length:=U;have _b:=QQ V q (cP _);refine O ?_;have R:w5 t k (k+1)=[]:=wY (cP _);have f:Z w0 w [ai W 3 os (wc t t.vars.length++we t t.vars.length k++w5 t k (k+1)),X aA 22 m os,X ah 4 gv G,ai ah 4 ss n,X aA 140 out ss,am r 26 [a,b,c,d]]:=by rw[R,gj];exact Y
  clear Y D;refine pu [16,16,19,19,113,142] (G:=Nat) (H:=Value) (I':=List Value) (fun j m _=>[(19,E j),(16,m)]) (fun j m os w=>k+1<=j/\j<=t.vars.length/\Z w0 w [ai W 3 os (wc t t.vars.length++we t t.vars.length k++w5 t k j),X aA 22 m os,X ah 4 gv G,ai ah 4 ss n,X aA 140 out ss,am r 26 [a,b,c,d]]) (fun j _ _=>t.vars.length-j) (k+1) m os (fun _ _ _=>rfl) ⟨rfl,rfl,az⟩ ⟨cP _,U,f⟩ ?_;clear f;rintro _u j F C w ⟨P',hj,Y⟩;refine aC ?_ ?_<;>intro h2
  ·have A:j<t.vars.length:=U
   have N:=hV.eI k q;have P:=hV.eI j A;have Q:=hN.eI k j q A;have V':=QQ V q hj;have J':=Y.bU;rw[length_append,length_append]at J';have z:w5 t k (j+1)=w5 t k j++wZ t [(k:Int),(j:Int)]:=by unfold w5;rw[sG P']
   have S:=Y.tail.tail.tail.row (i:=k) U;have _a:=hN.row k q;have o:((G.getD k ah.dflt || G.getD j ah.dflt) && (n.getD k []).getD j ah.dflt)=true↔qf t [(k:Int),(j:Int)]:=by
    rw[qzM,<-N,<-P,<-Q,Bool.and_eq_true,sL];rfl
   refine rK ?_
   cases hb:((G.getD k ah.dflt || G.getD j ah.dflt) && (n.getD k []).getD j ah.dflt) with
   | false =>
    rw[hb]at o;refine O ?_
    exact⟨j+1,F,C,⟨rfl,rfl,az⟩,aX,⟨U,U,by rw[z,Li (fun h=>by have:=o.2 h;cases this),gj];exact Y⟩,U⟩
   | true =>
    rw[hb]at o;clear S;refine O ?_;refine D3 (T:=W) [(k:Int),(j:Int)] [E k,E j] rfl rfl rfl rfl rfl (fP rfl) (fg _) (fP rfl) Y ?_;clear Y;intro sv w Y
    repeat (first|refine dS ?_|(refine gA ?_;clear Y;intro s w Y))
    exact⟨j+1,_,_,⟨rfl,rfl,az⟩,aX,⟨U,U,by rw[z,Lh (o.1 rfl),<-fk];exact Y.tail.jv⟩,U⟩
  have _a:j=t.vars.length:=U;subst _a;refine O ?_;refine⟨k+1,F,C,⟨rfl,rfl,az⟩,aX,⟨U,.inl U,?_⟩,U⟩;rw[show we t t.vars.length (k+1)=we t t.vars.length k++w5 t k t.vars.length by unfold we;rw[sG (bC k)],<-fk];exact Y
 rw[H']at h1
 obtain⟨R,_k,_w,_b⟩:∃ R,wc t t.vars.length++we t t.vars.length k=R/\R.length<=78/\R=if 2<=K then ke t 1++ke t 2 else ke t 1:=by
  refine⟨_,rfl,?_,?_⟩
  ·have:=(Fa V).2.1
   rw[Ln]at this;have h3:=DK (g:=fun a=>w5 t a t.vars.length) (lo:=0) hk;unfold we at *
   rw[length_append];omega
  by_cases e:2<=K
  ·rw[ba e,Lm,Ln,show k=t.vars.length by omega]
  rw[aM e,Lm,show k=0 by omega,L,gj]
 rw[_k]at Y D;clear _k h1 hk _j L _t;have S:tU t t.vars.length 0=[]:=wY (cP _);have f:Z w0 w [ai W 3 os (R++tU t t.vars.length 0),X aA 22 m os,X ah 4 gv G,ai ah 4 ss n,X aA 140 out ss,am r 26 [a,b,c,d]]:=by rw[S,gj];exact Y
 clear Y;refine O ?_;refine pu [16,16,20,23,143,248] (G:=Nat) (H:=Value) (I':=List Value) (fun k m _=>[(20,E k),(16,m)]) (fun k m os w=>k<=t.vars.length/\(3<=K\/k=0)/\Z w0 w [ai W 3 os (R++tU t t.vars.length k),X aA 22 m os,X ah 4 gv G,ai ah 4 ss n,X aA 140 out ss,am r 26 [a,b,c,d]]) (fun k _ _=>t.vars.length-k) 0 m os (fun _ _ _=>rfl) ⟨rfl,rfl,az⟩ ⟨bC _,.inr rfl,f⟩ ?_;clear f D;rintro _u k m os w ⟨hk,_j,Y⟩;have D:=Y.bU;have _E:(tU t t.vars.length k).length<=220:=by
  have h:=(Fa V).2.2;rw[Lo]at h;have h3:=DK (g:=fun a=>vd t t.vars.length a t.vars.length) (lo:=0) hk;unfold tU at *
  omega
 rw[length_append]at D;refine aC ?_ ?_<;>intro h1
 ·rw[H']at h1
  have q:k<t.vars.length:=U;refine O ?_;have _l:vd t t.vars.length k (k+1)=[]:=wY (cP _);have f:Z w0 w [ai W 3 os (R++tU t t.vars.length k++vd t t.vars.length k (k+1)),X aA 22 m os,X ah 4 gv G,ai ah 4 ss n,X aA 140 out ss,am r 26 [a,b,c,d]]:=by rw[_l,gj];exact Y
  clear Y D;refine pu [16,16,21,23,159,248] (G:=Nat) (H:=Value) (I':=List Value) (fun j m _=>[(21,E j),(16,m)]) (fun j m os w=>k+1<=j/\j<=t.vars.length/\Z w0 w [ai W 3 os (R++tU t t.vars.length k++vd t t.vars.length k j),X aA 22 m os,X ah 4 gv G,ai ah 4 ss n,X aA 140 out ss,am r 26 [a,b,c,d]]) (fun j _ _=>t.vars.length-j) (k+1) m os (fun _ _ _=>rfl) ⟨rfl,rfl,az⟩ ⟨cP _,U,f⟩ ?_;clear f;rintro _F j F C w ⟨P',hj,Y⟩;refine aC ?_ ?_<;>intro h2
  ·have A:j<t.vars.length:=U
   refine O ?_;have _m:xO t k j (j+1)=[]:=wY (cP _);have f:Z w0 w [ai W 3 C (R++tU t t.vars.length k++vd t t.vars.length k j++xO t k j (j+1)),X aA 22 F C,X ah 4 gv G,ai ah 4 ss n,X aA 140 out ss,am r 26 [a,b,c,d]]:=by rw[_m,gj];exact Y
   clear Y;refine pu [16,16,22,23,166,248] (G:=Nat) (H:=Value) (I':=List Value) (fun l m _=>[(22,E l),(16,m)]) (fun l m os w=>j+1<=l/\l<=t.vars.length/\Z w0 w [ai W 3 os (R++tU t t.vars.length k++vd t t.vars.length k j++xO t k j l),X aA 22 m os,X ah 4 gv G,ai ah 4 ss n,X aA 140 out ss,am r 26 [a,b,c,d]]) (fun l _ _=>t.vars.length-l) (j+1) F C (fun _ _ _=>rfl) ⟨rfl,rfl,az⟩ ⟨cP _,U,f⟩ ?_;clear f;rintro _G l _n _o w ⟨T',hl,Y⟩;refine aC ?_ ?_<;>intro h3
   ·have _c:l<t.vars.length:=U
    have N:=hV.eI k q;have P:=hV.eI j A;have Q:=hV.eI l _c;have _p:=hN.eI k j q A;have _q:=hN.eI j l A _c;have _r:=hN.eI k l q _c;have V':=YB V q P' A hl;have J':=Y.bU;rw[length_append,length_append,length_append]at J';have z:xO t k j (l+1)=xO t k j l++wZ t [(k:Int),(j:Int),(l:Int)]:=by unfold xO;rw[sG T']
    have _d:=Y.tail.tail.tail.row (i:=k) U;have _g:=hN.row k q;have _e:=Y.tail.tail.tail.row (i:=j) U;have _x:=hN.row j A;have o:(((n.getD k []).getD j ah.dflt && (n.getD j []).getD l ah.dflt || (n.getD k []).getD j ah.dflt && (n.getD k []).getD l ah.dflt || (n.getD k []).getD l ah.dflt && (n.getD j []).getD l ah.dflt) && (G.getD k ah.dflt || G.getD j ah.dflt || G.getD l ah.dflt))=true↔qf t [(k:Int),(j:Int),(l:Int)]:=by
     rw[qsZ,<-N,<-P,<-Q,<-_p,<-_q,<-_r];simp only[Bool.and_eq_true,sL];exact⟨fun⟨h1,h2⟩=>⟨or_assoc.1 h2,or_assoc.1 h1⟩,fun⟨h1,h2⟩=>⟨or_assoc.2 h2,or_assoc.2 h1⟩⟩
    refine rK ?_
    cases hb:(((n.getD k []).getD j ah.dflt && (n.getD j []).getD l ah.dflt || (n.getD k []).getD j ah.dflt && (n.getD k []).getD l ah.dflt || (n.getD k []).getD l ah.dflt && (n.getD j []).getD l ah.dflt) && (G.getD k ah.dflt || G.getD j ah.dflt || G.getD l ah.dflt)) with
    | false =>
     rw[hb]at o;refine O ?_
     exact⟨l+1,_n,_o,⟨rfl,rfl,az⟩,aX,⟨U,U,by rw[z,Li (fun h=>by have:=o.2 h;cases this),gj];exact Y⟩,U⟩
    | true =>
     rw[hb]at o;clear _d _e;refine O ?_;refine D3 (T:=W) [(k:Int),(j:Int),(l:Int)] [E k,E j,E l] rfl rfl rfl rfl rfl (fP rfl) (fg _) (fP rfl) Y ?_;clear Y;intro sv w Y
     repeat (first|refine dS ?_|(refine gA ?_;clear Y;intro s w Y))
     exact⟨l+1,_,_,⟨rfl,rfl,az⟩,aX,⟨U,U,by rw[z,Lh (o.1 rfl),<-fk];exact Y.tail.jv⟩,U⟩
   have fh:l=t.vars.length:=U;subst fh;refine O ?_;refine⟨j+1,_n,_o,⟨rfl,rfl,az⟩,aX,⟨U,U,?_⟩,U⟩;rw[show vd t t.vars.length k (j+1)=vd t t.vars.length k j++xO t k j t.vars.length by unfold vd;rw[sG P'],<-fk];exact Y
  have _a:j=t.vars.length:=U;subst _a;refine O ?_;refine⟨k+1,F,C,⟨rfl,rfl,az⟩,aX,⟨U,.inl U,?_⟩,U⟩;rw[show tU t t.vars.length (k+1)=tU t t.vars.length k++vd t t.vars.length k t.vars.length by unfold tU;rw[sG (bC k)],<-fk];exact Y
 rw[H']at h1;have j:R++tU t t.vars.length k=gE t K:=by
  have:K=1\/K=2\/K=3:=U;rcases this with e|e|e
  ·rw[_b,aM U,e,Yz,show k=0 by omega,S,gj]
  ·rw[_b,ba U,e,QN,show k=0 by omega,S,gj]
  rw[_b,ba U,e,YA,Lo,show k=t.vars.length by omega]
 have o:(gE t K).length<=298:=by rw[<-j,length_append];omega
 rw[j]at Y;have q:os.length=(gE t K).length:=Y.bU;refine aC ?_ ?_<;>intro z
 ·exfalso;omega
 refine O ?_;exact dw (v:=m) (v':=.nilIface) rfl rfl rfl ⟨m,os,rfl,Y.bj⟩
end
section
open Go.Sl
def qAT {n m:Nat}(e:n<=12)(hm:m<=3):(sH n m).length<=220:=by
 have h:=QO n U;have:m=0\/m=1\/m=2\/m=3:=U;rcases this with rfl|rfl|rfl|rfl
 ·simp[sH]
 ·omega
 ·omega
 omega
def qsp (t:aa):gE t 0=[]:=wY U
def qsq (t:aa)(m:Nat):gE t (m+1)=gE t m++ke t (m+1):=by
 unfold gE;rw[sG U]
def W3 {t:aa}(e:t.vars.length<=12):∀ {m:Nat},m<=3->(gE t m).length<=m*220
 | 0,_=>by rw[qsp];exact cP _
 | m+1,h=>by
  have f:=W3 e (m:=m) U;have h1:=DI (t:=t) (m+1);have g:=qAT e (m:=m+1) U;rw[qsq,length_append];omega
end
section
open Go.Sl Go
attribute [local irreducible] vc opsW opsD opV opW PureV ReadV Thn Blk
def W4 {n:Nat}:∀ {m:Nat}{p:J},p∈sH n m->(∀ v∈p,0<=v/\v<(n:Int))/\p.Pairwise (·<·)/\∀ v∈p,v<(sq p:Int)
 | 0,p,h=>by
  have e:p=[]:=by simpa [sH] using h
  subst e
  exact⟨fun v hv=>absurd hv jd,Pairwise.nil,fun v hv=>absurd hv jd⟩
 | m+1,p,h=>by
  obtain⟨q,hq,g⟩:=tN.1 h;obtain⟨h1,j,f⟩:=W4 hq;obtain⟨k,r,x,hk⟩:=E9.1 g;obtain rfl:=fU.1 hk;refine⟨fun v hv=>?_,D7.2 ⟨j,sm,fun a l b o=>?_⟩,fun v hv=>?_⟩
  ·rcases kK.1 hv with hv|hv
   ·exact h1 v hv
   rw[fU.1 hv];omega
  ·rw[fU.1 o]
   have:=f a l;omega
  rw[Lk];rcases kK.1 hv with hv|hv
  ·have:=f v hv;omega
  rw[fU.1 hv];omega
def W5 {p:J}(h:p∈gE t k):jX t.vars p:=by
 obtain⟨m,_,_,hm⟩:=E9.1 h;have:=W4 (wT.1 hm).1;exact⟨this.1,this.2.1⟩
noncomputable def dx (t:aa)(size:Int):List J:=(gE t (fA size)).take 32
def D1 (t:aa)(size:Int):(dx t size).length<=32:=by unfold dx;rw[jC];omega
def Aa {size:Int}(h:i<(dx t size).length):jX t.vars ((dx t size).getD i []):=by
 rw[aq h];exact W5 (rZ (zq h))
def WD {size:Int}(e:fx t)(h:i<(dx t size).length):dh t ((dx t size).getD i [])=0:=(Ez e (Aa h)).1
def qAI {size:Int}(h:i<(dx t size).length):(dx t size).getD i []=(gE t (fA size)).getD i []:=by
 have f:i<(gE t (fA size)).length:=by unfold dx at h;rw[jC]at h;omega
 have e:i<32:=by have:=D1 t size;omega
 show ((gE t (fA size)).take 32).getD i []=_;simp only[List.getD];rw[yj,ba e]
def qu5 {os:List Value}(h:i<(os.take k).length):cL (os.take k) i=cL os i:=by
 rw[jC]at h;rw[qL,qL];simp only[List.getD];rw[yj,ba U]
def qrq {os:List Value}(h:k<os.length):os.take (k+1)=os.take k++[cL os k]:=by
 rw[eX undef h,qL]
def W6 {size:Int}{f:Value}{os:List Value}{Γ:List HP}(Y:Z w0 w (X aA 22 f (os.take 32)::ai W 3 os (gE t (fA size))::Γ)):∃ ss,tT w f ss (dx t size):=by
 have g:os.length=(gE t (fA size)).length:=Y.swap.bU;refine⟨os.take 32,Y.rs 0 rfl,by unfold dx;rw[jC,jC,g],fun i e=>?_⟩;have h:i<(gE t (fA size)).length:=by unfold dx at e;rw[jC]at e;omega
 rw[qAI e,qu5 (by unfold dx at e;rw[jC]at e ⊢;rw[g];exact e)];exact Y.swap.row h
def WC {size:Int}(C:bR w0 a b c d vs t)(x:fx t) :
  Calls ak 55 #[.agg #[a,b,c,d],E size] w0 fun e w'=>∃ f,e=.returned (.tuple #[f,.nilIface])/\Z w0 w' [bA fun w=>∃ ss,tT w f ss (dx t size)]:=by
 have I:=x.dJ;have F:=W3 (t:=t) x.vars (m:=fA size) (by unfold fA;omega);have Y:=Z.start w0;refine bI ar Tryz.func55 ?_;refine ep ?_;intro y w Y;refine aR rfl (qij (C.at Y) I x.vars) ?_;rintro _ w' ⟨z,os,rfl,aw⟩;refine kl ?_;clear aw Y;intro Y;have K:os.length=(gE t (fA size)).length:=Y.bU;replace Y:=Y.nil (T:=aA) (e:=22);refine O ?_;have q:Z w0 w' [X aA 22 (nS) (os.take 0),ai W 3 os (gE t (fA size)),X aA 22 z os,am y 26 [a,b,c,d]]:=Y;refine dP [8,8,10,12,24,43] (G:=Nat) (H:=Value) (fun k f=>[(24,E k),(8,f)]) (fun k f w=>k<=os.length/\k<=32/\Z w0 w [X aA 22 f (os.take k),ai W 3 os (gE t (fA size)),X aA 22 z os,am y 26 [a,b,c,d]]) (fun k _=>os.length-k) 0 (nS) (fun _ _=>rfl) ⟨rfl,rfl,az⟩ ⟨bC _,U,q⟩ ?_;clear Y q;rintro σ k f w ⟨hk,D,Y⟩;have N:(os.take k).length=k:=by rw[jC];omega
 refine aC ?_ ?_<;>intro h1
 ·have A:k<os.length:=U
  have j:k<(gE t (fA size)).length:=U;have g:=Y.swap.row j;refine aC ?_ ?_<;>intro h2
  ·have l:k=32:=U
   subst l;refine O ?_;exact dw (v:=f) (v':=.nilIface) rfl rfl rfl ⟨f,rfl,(Z.rd (Δ:=[X aA 22 f (os.take 32),ai W 3 os (gE t (fA size)),X aA 22 z os,am y 26 [a,b,c,d]]) (Γ:=[]) (φ:=fun w=>∃ ss,tT w f ss (dx t size)) (fun _ _ h=>W6 h) Y).only⟩
  have o:dh t ((gE t (fA size)).getD k [])=0:=(Ez x (W5 (by rw[aq j];exact zq j))).1;obtain⟨L,P⟩:=À ((gE t (fA size)).getD k []);rw[<-P]at o g;refine O ?_;refine aR rfl (HN (vp:=cL os k) (L:=L) (C.at Y) g) ?_;rintro _ w' ⟨Q,R,gv,rfl,aw⟩;rw[o,HO]at aw;rw[o,ff rfl,HO,Ql];have r:=Y.call aw;clear aw Y;have Y:=r;clear r;refine⟨_,rfl,?_⟩;have S:=(Y.rs 0 rfl).one;have V:=(Y.rs 1 rfl).one;have o3:=(Y.rs 2 rfl).one;refine KS ?_;intro p w Y;refine lm (n:=5) (p:=p) (vs:=[E (bG t.vars L),E (cy t.vars L t.dt),Q,R,gv]) rfl rfl Y inferInstance rfl rfl (by simp only[fo,fB,S,V,o3];rfl) ?_;clear Y;intro w Y
  repeat (first|refine dS ?_|(refine gA ?_;clear Y;intro s w Y))
  obtain⟨B,rfl⟩:=À s;rw[<-qrq A]at Y;exact⟨k+1,B,⟨rfl,rfl,az⟩,aX,⟨U,U,Y.tail.tail.tail.tail.tail⟩,U⟩
 refine O ?_;have l:os.take k=os.take 32:=by rw[io U,io U]
 rw[l]at Y;exact dw (v:=f) (v':=.nilIface) rfl rfl rfl ⟨f,rfl,(Z.rd (Δ:=[X aA 22 f (os.take 32),ai W 3 os (gE t (fA size)),X aA 22 z os,am y 26 [a,b,c,d]]) (Γ:=[]) (φ:=fun w=>∃ ss,tT w f ss (dx t size)) (fun _ _ h=>W6 h) Y).only⟩
def mi (t:aa)(Ls:List J)(f:List Value)(e:List J)(w:World):Prop:=f.length=e.length/\∀ i,i<e.length->∃ q,cL f i=.pointer (some q)/\xN w q (pT t (Ls.getD i []) (e.getD i []))
def sR (ps:List Value)(e:List J)(w:World):Prop:=ps.length=e.length/\∀ i,i<e.length->RS W w (cL ps i) (e.getD i [])
def BV (w:World)(p:Addr)(t:aa)(Ls l m:List J):Prop:=∃ e f g h j,eJ w p [e,f,g]/\RS W w e t.vars/\RS aA w f h/\mi t Ls h l w/\RS aA w g j/\sR j m w
def mi.at {w0 w:World}{Γ:List HP}{t:aa}{Ls:List J}{e:List Value}{f:List J}(h:mi t Ls e f w0)(Y:Z w0 w Γ):mi t Ls e f w:=⟨h.1,fun i g=>let ⟨q,a,b⟩:=h.2 i g;⟨q,a,b.at Y⟩⟩
def sR.at {w0 w:World}{Γ:List HP}{ps:List Value}{e:List J}(h:sR ps e w0)(Y:Z w0 w Γ):sR ps e w:=⟨h.1,fun i f=>(h.2 i f).at Y⟩
def BV.at {w0 w:World}{Γ:List HP}{p:Addr}{t:aa}{Ls e f:List J}(h:BV w0 p t Ls e f)(Y:Z w0 w Γ):BV w p t Ls e f:=by
 obtain⟨g,j,l,m,n,h1,o,q,r,x,y⟩:=h;exact⟨g,j,l,m,n,h1.at Y,o.at Y,q.at Y,r.at Y,x.at Y,y.at Y⟩
def W7 {v:Value}(h:i<ss.length):cL (ss++[v]) i=cL ss i:=by simp[qL,ow,mu h]
def W8 {v:Value}(h:i=ss.length):cL (ss++[v]) i=v:=by subst h;simp[qL,ow]
def mi.gD {Ls:List J}{g:List Value}{f:List J}{q:Addr}{D:J}(h:mi t Ls g f w)(hq:xN w q (pT t (Ls.getD f.length []) D)):mi t Ls (g++[.pointer (some q)]) (f++[D]) w:=by
 have h1:=h.1;refine⟨by simp[h1],fun i l=>?_⟩;simp only[length_append,length_cons,length_nil]at l;by_cases e:i<f.length
 ·rw[W7 U,Cq e];exact h.2 i e
 have j:i=f.length:=U;rw[W8 U,KW j,j];exact⟨q,rfl,hq⟩
def sR.gD {ps:List Value}{f:List J}{s:Value}{S:J}(h:sR ps f w)(g:RS W w s S):sR (ps++[s]) (f++[S]) w:=by
 have h1:=h.1;refine⟨by simp[h1],fun i j=>?_⟩;simp only[length_append,length_cons,length_nil]at j;by_cases e:i<f.length
 ·rw[W7 U,Cq e];exact h.2 i e
 have l:i=f.length:=U;rw[W8 U,KW l];exact g
open Classical in
noncomputable def qB (t:aa)(Ls:List J):Int:=if cC t≠0 then cC t else if ∃ i,i<Ls.length/\¬fX t.vars (Ls.getD i []) then 2 else if 32<Ls.length then 5 else 0
def nP (t:aa)(k:Nat):J:=(List.range t.M.length).map fun i=>if i<k then (ao t).getD i W.dflt else 0
def qwP (t:aa)(k:Nat):(nP t k).length=t.M.length:=by simp[nP]
def qtf (t:aa):nP t 0=replicate t.M.length 0:=by
 apply jB (by simp[nP]);intro i h1 e;simp[nP]
def qwQ (t:aa):nP t t.M.length=ao t:=by
 apply jB (by simp[nP,ao]);intro i h1 e;have f:i<t.M.length:=by simpa [nP] using h1
 simp[nP,f,List.getD,e]
def qwR:(nP t k).set k ((ao t).getD k W.dflt)=nP t (k+1):=by
 apply jB (by simp[nP]);intro i h1 f;rw[tS];simp only[nP,getElem_map,tI];split
 ·rename_i e;subst e;rw[ba U]
 by_cases h:i<k
 ·rw[ba h,ba U]
 rw[aM h,aM U]
def qA1 {cs:J}(h:cs.length=t.M.length):vY t cs=cs:=by
 unfold vY;split
 ·rename_i e
  rw[qD e];exact qD (by simp only[ao,lA];omega)
 rfl
def fc.Df {c L:J}(h:fc t c)(I:aJ t)(e:dh t L=0):jH t L c=0:=by
 unfold jH;rw[aM (by rw[(tE t).2 I];decide),aM (by have:=h.len;omega),aM (fun⟨x,hx,f⟩=>by have:=h.et x hx;unfold oL at f;omega),e]
def qye {s:Value}{Ls:List J}(ht:bR w0 a b c d vs t)(hl:tT w0 s ss Ls)(hP:aJ t->(∀ i,i<Ls.length->fX t.vars (Ls.getD i []))->Ls.length<=32->∀ i,i<Ls.length->dh t (Ls.getD i [])=0) :
  Calls ak 57 #[.agg #[a,b,c,d],s] w0 fun e w' =>
   (qB t Ls≠0/\e=.returned (.tuple #[.pointer none,bS (qB t Ls)])/\Z w0 w' []) \/
   (qB t Ls=0/\aJ t/\Ls.length<=32/\(∀ i,i<Ls.length->dh t (Ls.getD i [])=0)/\∃ p y f,e=.returned (.tuple #[.pointer (some p),.nilIface])/\uM t Ls (ao t) y f/\Z w0 w' [bA fun w=>BV w p t Ls y f]):=by
 have j':=ht;obtain⟨ha,hb,hc,hd⟩:=ht;have _v:=hd.rs;have _w:=hd.len;have _g:=hl.rs;have _x:=hl.len;have _y:=_g.cn;have Y:=Z.start w0;refine bI ar Tryz.func57 ?_;refine ep ?_;intro Q w Y;refine aR rfl (xL (j'.at Y)) ?_;rintro _ w' ⟨rfl,aw⟩;refine aL ?_;clear aw Y;intro Y;by_cases h1:cC t=0;rotate_left
 ·have l:qB t Ls=cC t:=ba h1
  rw[c9 h1];refine O ?_;exact dw (v:=.pointer none) (v':=.iface 57 (E (cC t))) rfl rfl rfl (.inl ⟨by rw[l];exact h1,by rw[l,c9 h1],Y.bj⟩)
 rw[ff h1];have I:=(tE t).1 h1;have _z:=I.M;refine O ?_;refine aR rfl (d_ (j'.at Y) (rk Y) (hl.at Y)) ?_;rintro _ w' ⟨⟨r,rfl,hr⟩,aw⟩;refine aL ?_;clear aw Y;intro Y;cases r;rotate_left
 ·have l:qB t Ls=2:=by unfold qB;rw[aM (by simp[h1]),ba (hr.1 rfl)]
  refine O ?_;exact dw (v:=.pointer none) (v':=.iface 57 (E 2)) rfl rfl rfl (.inl ⟨by rw[l];decide,by rw[l,c9 dc],Y.bj⟩)
 have R:∀ i,i<Ls.length->fX t.vars (Ls.getD i []):=fun i hi=>by
  by_cases h:fX t.vars (Ls.getD i [])
  ·exact h
  have:=hr.2 ⟨i,hi,h⟩;cases this
 have R':¬∃ i,i<Ls.length/\¬fX t.vars (Ls.getD i []):=fun⟨i,hi,h⟩=>h (R i hi);refine aC ?_ ?_<;>intro h2
 ·have l:qB t Ls=5:=by unfold qB;rw[aM (by simp[h1]),aM R',ba U]
  refine O ?_;exact dw (v:=.pointer none) (v':=.iface 57 (E 5)) rfl rfl rfl (.inl ⟨by rw[l];decide,by rw[l,c9 dc],Y.bj⟩)
 have l:qB t Ls=0:=by unfold qB;rw[aM (by simp[h1]),aM R',aM U]
 have V:Ls.length<=32:=U;have T':=hP I R V;refine kO ?_;intro s w Y;obtain⟨N,rfl⟩:=À s;rw[show ((vs.length:Int)).toNat=t.M.length by omega,<-qtf t]at Y;refine de [8,9,37,47] (G:=Nat) (fun k=>[(37,E k)]) (fun k w=>k<=t.M.length/\Z w0 w [X W 3 N (nP t k),am Q 26 [a,b,c,d]]) (fun k=>t.M.length-k) 0 (fun _=>rfl) ⟨rfl,az⟩ ⟨bC _,Y⟩ ?_;clear Y;rintro σ k w ⟨hk,Y⟩;have _h:=qwP t k;refine aC ?_ ?_<;>intro h3
 ·have B:k<t.M.length:=U
  have g:=hd.eI k B;have m:=g.one;have j:=g.aT;refine ep ?_;intro p w Y;rw[j,<-tD B,qwR]at Y;exact⟨k+1,⟨rfl,az⟩,aX,⟨U,Y.bj⟩,U⟩
 have H':k=t.M.length:=U;subst H';rw[qwQ]at Y;clear _h;have hC:=zz I;have _i:t.vars.length<=1099511627776:=by have:=I.vars;omega
 refine O ?_;refine aR rfl (pU (ha.at Y) _i) ?_;rintro _ w' ⟨g,rfl,aw⟩;refine aO ?_;clear aw Y;intro Y;have _j:=(Y.rs 0 rfl).one;refine K8 (v1:=g) rfl rfl (by simp only[fo,fB,_j];rfl) ?_;refine zx (vs:=[g,nS,nS]) rfl Y ?_;clear Y;intro pp w Y;refine O ?_;have m:Z w0 w [X W 3 N (eE (ao t) [] 0),bA (mi t Ls [] []),bA (sR [] []),X aA 149 (nS) [],X aA 22 (nS) [],am pp 155 [g,nS,nS],X W 3 g t.vars,am Q 26 [a,b,c,d]]:=by
  have z:Z w0 w [am pp 155 [g,nS,nS],X W 3 g t.vars,X W 3 N (ao t),am Q 26 [a,b,c,d]]:=Y;have J':=Z.r6 (φ:=sR [] []) (fun w=>⟨rfl,fun i hi=>absurd hi (eo _)⟩) (Z.r6 (φ:=mi t Ls [] []) (fun w=>⟨rfl,fun i hi=>absurd hi (eo _)⟩) ((z.nil (T:=aA) (e:=149)).nil (T:=aA) (e:=22)));rw[Qo];exact J'.bj
 clear Y;refine de [4,5,12,16,55,107] (G:=Nat × Value × Value × List Value × List Value × List J × List J) (fun x=>[(55,E x.1)]) (fun x w=>x.1<=Ls.length/\uM t (Ls.take x.1) (ao t) x.2.2.2.2.2.1 x.2.2.2.2.2.2/\x.2.2.2.1.length=x.1/\x.2.2.2.2.1.length=x.1/\Z w0 w [X W 3 N (eE (ao t) x.2.2.2.2.2.2 x.1),bA (mi t Ls x.2.2.2.1 x.2.2.2.2.2.1),bA (sR x.2.2.2.2.1 x.2.2.2.2.2.2),X aA 149 x.2.1 x.2.2.2.1,X aA 22 x.2.2.1 x.2.2.2.2.1,am pp 155 [g,x.2.1,x.2.2.1],X W 3 g t.vars,am Q 26 [a,b,c,d]]) (fun x=>Ls.length-x.1) (0,nS,nS,[],[],[],[]) (fun _=>rfl) ⟨rfl,az⟩ ⟨bC _,uM.nil t _,rfl,rfl,m⟩ ?_;clear m;rintro _A ⟨k,H,K,n,o,y,f⟩ w ⟨hk,hR,V',_a,Y⟩;simp only at hk hR V' _a Y;have P':(Ls.take k).length=k:=by rw[jC];omega
 have _b:y.length=k:=by rw[hR.dl,P']
 have _c:f.length=k:=by rw[hR.pl,P']
 refine aC ?_ ?_<;>intro h4
 ·have B:k<Ls.length:=U
  have _d:=T' k B;have P:fc t (eE (ao t) f k):=hR.aT hC k U;refine O ?_;refine aR rfl (KR (kv:=N) (vp:=cL ss k) (L:=(Ls.getD k [])) (cs:=eE (ao t) f k) (j'.at Y) ((hl.eI k B).at Y) (bB Y)) ?_;rintro _ w' (⟨_k,_⟩|⟨_,_,_,_,q,D,rfl,hD,aw⟩)
  ·exact absurd (P.Df I _d) _k
  rw[qA1 P.len]at hD;refine aO ?_;clear aw Y;intro Y;have _l:=KQ _d hD;refine O ?_;refine aR rfl (XT (O1 Y) _l) ?_;rintro _ w' ⟨A,rfl,aw⟩;refine aO ?_;clear aw Y;intro Y;obtain⟨_m,_e⟩:=P.sub hD;have hm:(pT t (Ls.getD k []) D).nu.aN.length=t.M.length:=by show (ao t).length=_;simp[ao]
  rw[hm]at Y;have _n:(qd (cm t (Ls.getD k [])) D t.M.length).length=t.M.length:=Ν;obtain⟨S,hS⟩:=À (qd (cm t (Ls.getD k [])) D t.M.length);have _o:=P.len;have m:Z w0 w' [X W 3 N (mB (eE (ao t) f k) S 0),X W 3 A S,tH q (pT t (Ls.getD k []) D),bA (mi t Ls n y),bA (sR o f),X aA 149 H n,X aA 22 K o,am pp 155 [g,H,K],X W 3 g t.vars,am Q 26 [a,b,c,d]]:=by
   have z:Z w0 w' [X W 3 A (qd (cm t (Ls.getD k [])) D t.M.length),tH q (pT t (Ls.getD k []) D),X W 3 N (eE (ao t) f k),bA (mi t Ls n y),bA (sR o f),X aA 149 H n,X aA 22 K o,am pp 155 [g,H,K],X W 3 g t.vars,am Q 26 [a,b,c,d]]:=Y;rw[<-hS]at z;rw[X0];exact z.bj
  clear Y;have Y:=m;clear m;rw[<-hS]at _m _e _n;have _B:=Qn (eE (ao t) f k) S 0;refine O ?_;refine de [16,16,73,86] (G:=Nat) (fun j=>[(73,E j)]) (fun j w=>j<=t.M.length/\Z w0 w [X W 3 N (mB (eE (ao t) f k) S j),X W 3 A S,tH q (pT t (Ls.getD k []) D),bA (mi t Ls n y),bA (sR o f),X aA 149 H n,X aA 22 K o,am pp 155 [g,H,K],X W 3 g t.vars,am Q 26 [a,b,c,d]]) (fun j=>t.M.length-j) 0 (fun _=>rfl) ⟨rfl,az⟩ ⟨bC _,Y⟩ ?_;clear Y;rintro _C j w ⟨hj,Y⟩;have _D:=Qn (eE (ao t) f k) S j;refine aC ?_ ?_<;>intro h5
  ·have C:j<t.M.length:=U
   have _f:=_e j C;have _p:=P.at C;have F:=X3 (a:=eE (ao t) f k) (b:=S) (j:=j) U;refine dD ?_;intro w Y;rw[F,X4]at Y;exact⟨j+1,⟨rfl,az⟩,aX,⟨U,Y⟩,U⟩
  have _p:j=t.M.length:=U;subst _p;have _q:eE (ao t) (f++[S]) (k+1)=qN (eE (ao t) f k) S:=by
   rw[KV (by simp;omega),Qp U,KW _c.symm]
  have _f:mB (eE (ao t) f k) S t.M.length=qN (eE (ao t) f k) S:=by rw[<-_o,X2]
  rw[_f,<-_q]at Y;have _r:uM t (Ls.take (k+1)) (ao t) (y++[D]) (f++[S]):=by
   rw[eX [] B,hS];exact hR.gD (by rw[P'];exact hD)
  have _s:=(bB (s:=A) Y).fu;refine O ?_;refine u7 (.s [0,1,2,3,4,6,9,10,11,13,5,12] (.d 7 [5,12] (.d 8 [12] (.c 14 [5,12] (.s [15,16,17,18,19,20,21] (.jz []))) (.d 14 [5,12] (.c 8 [12] (.s [15,16,17,18,19,20,21] (.jz []))) (.stop))) (.d 14 [5,12] (.c 7 [5,12] (.c 8 [12] (.s [15,16,17,18,19,20,21] (.jz [])))) (.stop)))) Y kr kr ?_;clear Y;intro w Y
  repeat' (first
   | refine dS ?_
   | (refine uP ?_;clear Y;intro w Y)
   | refine jl ?_ ?_
   | exact pP
   | (refine jA aA (x1:=.pointer (some q)) rfl rfl rfl (fP rfl) (fg _) Y ?_;clear Y;intro bq w Y)
   | (refine jA aA (x1:=A) rfl _s rfl (fP rfl) (fg _) Y ?_;clear Y;intro bs w Y)
   | (refine sF (s:=H) (s2:=bq) inferInstance rfl rfl (bB Y) rfl rfl (fun x hx v hv=>by rw[fU.1 hx]at hv;rw[fU.1 hv];rfl) (by simp only[length_cons,length_nil];omega) (by unfold cn;simp only[length_cons,length_nil];omega) Y ?_;clear Y;intro C w Y)
   | (refine sF (s:=K) (s2:=bs) inferInstance rfl rfl (bB Y) rfl rfl (fun x hx v hv=>by rw[fU.1 hx]at hv;rw[fU.1 hv];exact RS.one (bB (s:=A) Y)) (by simp only[length_cons,length_nil];omega) (by unfold cn;simp only[length_cons,length_nil];omega) Y ?_;clear Y;intro F w Y))
  all_goals (
   have z:Z w0 w [X W 3 N (eE (ao t) (f++[S]) (k+1)),X W 3 A S,tH q (pT t (Ls.getD k []) D),bA (mi t Ls n y),bA (sR o f),X aA 149 C (n++[.pointer (some q)]),X aA 22 F (o++[A]),am pp 155 [g,C,F],X W 3 g t.vars,am Q 26 [a,b,c,d]]:=Y.tail.tail;have m:Z w0 w [tH q (pT t (Ls.getD k []) D),bA (mi t Ls n y),X W 3 A S,bA (sR o f),X W 3 N (eE (ao t) (f++[S]) (k+1)),X aA 149 C (n++[.pointer (some q)]),X aA 22 F (o++[A]),am pp 155 [g,C,F],X W 3 g t.vars,am Q 26 [a,b,c,d]]:=z.bj;have J':=Z.DQ (χ:=mi t Ls (n++[.pointer (some q)]) (y++[D])) (fun w h1 h2=>h2.gD (by rw[_b];exact h1)) (Z.rd (Δ:=[tH q (pT t (Ls.getD k []) D)]) (φ:=fun w=>xN w q (pT t (Ls.getD k []) D)) (fun _ _ h=>tj h 0 rfl) m);have _t:Z w0 w [X W 3 A S,bA (sR o f),bA (mi t Ls (n++[.pointer (some q)]) (y++[D])),X W 3 N (eE (ao t) (f++[S]) (k+1)),X aA 149 C (n++[.pointer (some q)]),X aA 22 F (o++[A]),am pp 155 [g,C,F],X W 3 g t.vars,am Q 26 [a,b,c,d]]:=J'.bj;have _u:=Z.DQ (χ:=sR (o++[A]) (f++[S])) (fun w h1 h2=>h2.gD h1) (Z.rd (Δ:=[X W 3 A S]) (φ:=fun w=>RS W w A S) (fun _ _ h=>h.rs 0 rfl) _t)
   exact⟨(k+1,C,F,n++[.pointer (some q)],o++[A],y++[D],f++[S]),⟨rfl,az⟩,aX,⟨B,_r,by simp[V'],by simp[_a],_u.bj⟩,by simp only;omega⟩)
 have H':k=Ls.length:=U;subst H';rw[mK]at hR;refine O ?_;have m:Z w0 w [bA (mi t Ls n y),bA (sR o f),X aA 149 H n,X aA 22 K o,am pp 155 [g,H,K],X W 3 g t.vars]:=Y.bj;have z:=Z.rd (Δ:=[bA (mi t Ls n y),bA (sR o f),X aA 149 H n,X aA 22 K o,am pp 155 [g,H,K],X W 3 g t.vars]) (Γ:=[]) (φ:=fun w=>BV w pp t Ls y f) (fun _ w h=>⟨g,H,K,n,o,h.dA 4 rfl,h.rs 5 rfl,h.rs 2 rfl,h.dQ 0 rfl,h.rs 3 rfl,h.dQ 1 rfl⟩) m;exact dw (v:=.pointer (some pp)) (v':=.nilIface) rfl rfl rfl (.inr ⟨l,I,V,T',pp,y,f,rfl,hR,z⟩)
end
end Go.Proofs.YtmapkjoefdgjfaaGreatDoor
