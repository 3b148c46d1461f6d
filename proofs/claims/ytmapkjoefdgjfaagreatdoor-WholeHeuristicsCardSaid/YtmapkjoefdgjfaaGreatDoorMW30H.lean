/- Several texts. -/
import Derived.Test.YtmapkjoefdgjfaaGreatDoorMW29H
set_option linter.unusedSimpArgs false
set_option linter.unusedVariables false
set_option linter.defProp false
set_option maxRecDepth 8000
set_option maxHeartbeats 16000000
open List Nat
namespace Go.Proofs.YtmapkjoefdgjfaaGreatDoor
open Go.Sl Go
variable {a b c d fv lv:Value}{t:aa}{w0 w:World}{vs:List kq}{z:J}{o:Addr}{us:List yp}
attribute [local irreducible] vc opsW opsD opV opW PureV ReadV Thn Blk
instance Pw:rn ak 102 "Value" 273 := ⟨kr⟩
def Ĭ {sv:Value}{kind:Int}(hO:kind=3->yC)(f:1<=kind)(g:kind<=3)(i:bR w0 a b c d vs t)(I:aJ t)(j:RS W w0 sv z)(bX:aj t.vars z) :
  Calls ak 273 #[.agg #[a,b,c,d,E kind],sv] w0 fun e w'=>e=.returned (E (gC t kind z))/\Z w0 w' []:=by
 have Y:=Z.start w0;obtain⟨V,h⟩:=À (sT t z kind);have hH:gC t kind z=if V.1=0 then V.2 else 0:=by rw[h];rfl
 rw[hH];refine bI ar Tryz.func273 ?_;refine ep ?_;intro p w Y;refine r7 rfl (zC (k:=0) (n:=4) (vs:=[a,b,c,d]) rfl (Y.dA 0 rfl) rfl rfl) ?_;refine O ?_;refine aR rfl (ĭ hO f g (i.at Y) I (j.at Y) bX) ?_;refine gk ?_;clear Y;intro w' Y;rw[<-h];by_cases he:V.1=0
 ·rw[ba he,ff he]
  refine O ?_;exact bo (v:=E V.2) rfl rfl ⟨rfl,iH Y⟩
 rw[aM he,c9 he];refine O ?_;exact bo (v:=E 0) rfl rfl ⟨rfl,iH Y⟩
def Į {kind:Int}(hO:kind=3->yC)(e:1<=kind)(f:kind<=3)(h:bR w a b c d vs t)(I:aJ t):gW w (.iface 102 (.agg #[a,b,c,d,E kind])) t (gC t kind) :=
 ⟨_,_,_,_,rfl,HH _,inferInstance,fun _ _ _ _ i g bX=>Ĭ hO e f (h.at i) I g bX⟩
def TP {h:Value}{k:Int}(f:∃ T v,h=.iface T v) :
  Calls ak 37 #[.agg #[a,b,c,d],h,.iface 57 (E k)] w0 fun e w'=>e=.returned (.tuple #[.pointer none,.iface 57 (E k)])/\Z w0 w' []:=by
 obtain⟨T,v,rfl⟩:=f;have Y:=Z.start w0;refine bI ar Tryz.func37 ?_;refine ep ?_;intro p w Y;exact dw (v:=.pointer none) (v':=.iface 57 (E k)) rfl rfl rfl ⟨rfl,iH Y⟩
def LO {kind:Int}(hO:kind=3->yC)(l:bR w0 a b c d vs t)(I:aJ t) :
  Calls ak 29 #[.agg #[a,b,c,d],E kind] w0 fun e w'=>((kind<1\/3<kind)/\e=.returned (.tuple #[.pointer none,bS 1])/\Z w0 w' [])\/∃ p,(1<=kind/\kind<=3)/\e=.returned (.tuple #[.pointer (some p),.nilIface])/\Z w0 w' [bA fun w=>cF w p t (gC t kind)]:=by
 have Y:=Z.start w0;refine bI ar Tryz.func29 ?_;refine ep ?_;intro p w Y;obtain⟨y,rfl⟩:=À p;refine aR rfl (xL (l.at Y)) ?_;refine gk ?_;clear Y;intro w' Y;rw[ff ((tE t).2 I)];by_cases q:kind<1\/3<kind
 ·by_cases m:kind<1
  ·have g:decide (kind<1)=true:=dH m
   refine O ?_
   try simp only[g];refine kt ?_
   refine O ?_;refine gi (pl [0,1,2] (.cY 0::pl [3,4] (.cY 0::pl [5,6,7,8,9,10,11] []))) Y kr ?_;clear Y;intro w Y;refine O ?_;refine aR rfl (H1 (l.at Y) I) ?_;rintro _ w' ⟨a2,f,c2,d2,i,rfl,aw⟩;refine aO ?_;clear aw Y;intro Y;refine O ?_;refine mX (vs:=[(0,.agg #[a2,f,c2,d2]),(1,E kind)]) (ls:=[(0,[a2,f,c2,d2]),(1,[E kind])]) rfl rfl rfl ?_;refine O ?_;refine aR rfl (TP (h:=.iface 102 (.agg #[a2,f,c2,d2,E kind])) (k:=1) ⟨_,_,rfl⟩) ?_;refine iw ?_;intro w' Y;exact dw (v:=.pointer none) (v':=.iface 57 (E 1)) rfl rfl rfl (.inl ⟨q,by rw[c9 dc],iH Y⟩)
  have g:decide (kind<1)=false:=dB m;have j:decide (3<kind)=true:=dH U;refine O ?_
  try simp only[g,j];refine kt ?_
  refine O ?_;refine gi (pl [0,1,2] (.cY 0::pl [3,4] (.cY 0::pl [5,6,7,8,9,10,11] []))) Y kr ?_;clear Y;intro w Y;refine O ?_;refine aR rfl (H1 (l.at Y) I) ?_;rintro _ w' ⟨a2,f,c2,d2,i,rfl,aw⟩;refine aO ?_;clear aw Y;intro Y;refine O ?_;refine mX (vs:=[(0,.agg #[a2,f,c2,d2]),(1,E kind)]) (ls:=[(0,[a2,f,c2,d2]),(1,[E kind])]) rfl rfl rfl ?_;refine O ?_;refine aR rfl (TP (h:=.iface 102 (.agg #[a2,f,c2,d2,E kind])) (k:=1) ⟨_,_,rfl⟩) ?_;refine iw ?_;intro w' Y;exact dw (v:=.pointer none) (v':=.iface 57 (E 1)) rfl rfl rfl (.inl ⟨q,by rw[c9 dc],iH Y⟩)
 have g:decide (kind<1)=false:=dB U;have j:decide (3<kind)=false:=dB U;have m:1<=kind:=U;have n:kind<=3:=U;refine O ?_
 try simp only[g,j];refine kt ?_
 refine O ?_;refine gi (pl [0,1,2] (.cY 0::pl [3,4] (.cY 0::pl [5,6,7,8,9,10,11] []))) Y kr ?_;clear Y;intro w Y;refine O ?_;refine aR rfl (H1 (l.at Y) I) ?_;rintro _ w' ⟨a2,f,c2,d2,i,rfl,aw⟩;refine aO ?_;clear aw Y;intro Y;refine O ?_;refine mX (vs:=[(0,.agg #[a2,f,c2,d2]),(1,E kind)]) (ls:=[(0,[a2,f,c2,d2]),(1,[E kind])]) rfl rfl rfl ?_;refine O ?_;refine aR rfl (zT (h:=.iface 102 (.agg #[a2,f,c2,d2,E kind])) (H:=gC t kind) (l.at Y) I ⟨_,_,rfl⟩) ?_;rintro _ w' ⟨r,rfl,aw⟩;refine aO ?_;clear aw Y;intro Y;refine O ?_;have u:Z w0 w' [bA fun w=>gW w (.iface 102 (.agg #[a2,f,c2,d2,E kind])) t (gC t kind)->cF w r t (gC t kind),bA fun w=>bR w a2 f c2 d2 i t,am y 26 [a,b,c,d]]:=Y;have x:=Z.rd (Δ:=[bA fun w=>gW w (.iface 102 (.agg #[a2,f,c2,d2,E kind])) t (gC t kind)->cF w r t (gC t kind),bA fun w=>bR w a2 f c2 d2 i t]) (φ:=fun w=>cF w r t (gC t kind)) (fun _ w h=>(h.dQ 0 rfl) (Į hO m n (h.dQ 1 rfl) I)) u;exact dw (v:=.pointer (some r)) (v':=.nilIface) rfl rfl rfl (.inr ⟨r,⟨m,n⟩,rfl,x.bj⟩)
def sI:J->Int
 | []=>0
 | x::l=>x+sI l
def MT:∀ (a b:J),sI (a++b)=sI a+sI b
 | [],b=>by show sI b=0+sI b;omega
 | x::a,b=>by
  show x+sI (a++b)=x+sI a+sI b;rw[MT a b];omega
def yS:∀ {l:J},(∀ x∈l,0<=x)->0<=sI l
 | [],_=>iq _
 | x::l,h=>by
  have h1:=h x ku;have f:=yS fun y e=>h y (nt x e);show 0<=x+sI l;omega
def TQ {l:J}(h:∀ x∈l,0<=x)(k:Nat):0<=sI (l.take k)/\sI (l.take k)<=sI l:=by
 have h1:=MT (l.take k) (l.drop k);rw[Ak]at h1;have e:=yS (l:=l.take k) fun x hx=>h x (rZ hx);have f:=yS (l:=l.drop k) fun x hx=>h x (Ma hx);omega
def TR:∀ (L:List (List Nat × Int)),ng L=sI (L.map Prod.snd)
 | []=>rfl
 | x::L=>by
  show x.2+ng L=x.2+sI (L.map Prod.snd);rw[TR L]
def į {cs:J}{r:Option (List (List Nat × Int))}(h:sO t z cs r):fe t cs->∀ l,r=some l->∀ x∈l,0<=x.2:=by
 induction h with
 | qR _ _=>intro _ l e;cases e
 | done _ _=>intro _ l e x hx;cases e;exact absurd hx jd
 | @step cs V g0 K c r _ _ _ _ _ _ j _ n =>
  intro k l e x hx;have f:=D5 k j;obtain⟨⟨i,i1,i2,i3⟩,i4⟩:=j;have g:0<=c:=by have:=k.2 _ (cS W.dflt i2);omega
  cases r with
  | none=>cases e
  | some m =>
   have q:l=(K,c)::m:=(zD e).symm;subst q;rcases gT.1 hx with u|hx
   ·rw[u];exact g
   exact n f m rfl x hx
def İ {gv r sv:Value}(T:wu w0 o t a fv gv r lv us)(I:aJ t)(V:RS W w0 sv z)(bX:aj t.vars z) :
  Calls ak 266 #[.pointer (some o),sv] w0 fun e w'=>e=.returned (E (pX t z))/\Z w0 w' []:=by
 have Y:=Z.start w0;refine bI ar Tryz.func266 ?_;refine O ?_;obtain⟨hb,u,A,B,C,D,F,hF⟩:=T;refine aR rfl (ı ⟨hb.at Y,u.at Y,A.at Y,B.at Y,C.at Y,D.at Y,F,hF.at Y⟩ I (V.at Y) bX) ?_;rintro _ w' (⟨h,rfl,aw⟩|⟨Q,L,cl,h,rfl,i,j,aw⟩)
 ·replace Y:=Y.cH aw
  clear aw;refine⟨_,rfl,?_⟩;rw[c9 (show (3:Int)≠0 by decide)];refine O ?_;exact bo (v:=E 1125899906842624) rfl rfl ⟨by rw[ur bX h];rfl,iH Y⟩
 refine aO ?_;clear aw Y;intro Y;have l:∀ x∈cl.map jo.aT,0<=x:=fun x hx=>by
  rw[i]at hx;obtain⟨y,f,rfl⟩:=iG.1 hx;exact į h (D4 I) L rfl y f
 have j':=MU I h;have K:sI (cl.map jo.aT)=ng L:=by rw[i,TR]
 have g:(cl.map jo.aT).length=cl.length:=lA _;have R:=(bB (s:=Q) Y).cn;refine O ?_;refine dP [7,7,9,9,22,30] (G:=Nat) (H:=Int) (fun k m=>[(22,E k),(7,E m)]) (fun k m w=>k<=cl.length/\m=sI ((cl.map jo.aT).take k)/\Z w0 w [X cq 361 Q cl]) (fun k _=>cl.length-k) 0 0 (fun _ _=>rfl) ⟨rfl,rfl,az⟩ ⟨bC _,rfl,Y⟩ ?_;clear Y;rintro σ k m w ⟨hk,hm,Y⟩;refine aC ?_ ?_<;>intro h1
 ·have f:k<cl.length:=U
  have n:sI ((cl.map jo.aT).take (k+1))=m+(aB cq cl k).aT:=by
   rw[eX W.dflt (by rw[g];exact f),MT,<-hm,oz,aq (by rw[g];exact f),getElem_map,aq f];show m+(_+0)=_;omega
  have N:=TQ l (k+1);have P:=TQ l k;rw[<-hm]at P;have q:=j _ (cS (d:=cq.dflt) f);rw[<-oz]at q;have S:(cq.enc (aB cq cl k)).all Value.oneCell'=true:=by
   show ((aB cq cl k).M.oneCell' && ((Value.int .i64 (aB cq cl k).aT).oneCell' && true))=true;rw[q];rfl
  rw[n]at N;refine dj ?_;intro p w Y;exact⟨k+1,_,⟨rfl,rfl,az⟩,aX,⟨U,n.symm,Y.tail⟩,U⟩
 have f:k=cl.length:=U;rw[f,io (by rw[g];exact cP _),K]at hm;refine O ?_;exact bo (v:=E m) rfl rfl ⟨by rw[ur bX h,hm];rfl,iH Y⟩
def MV {r c2 u y A:Value}{vars:J}{l:List bE}(F:eJ w0 o [r,fv,c2,u,y,A])(K:RS W w0 fv (ew vars vars.length))(B:∀ x∈vars,1<=x)(q:∀ i,i<vars.length->vars.getD i W.dflt<=64)(j:vars.length<=64)(L:RS aD w0 lv l)(bX:∀ f∈l,bV vars f)(N:l.length<=64) :
  Calls ak 76 #[.pointer (some o),lv] w0 fun e w'=>∃ nv,e=.returned nv/\Z w0 w' [X W 3 nv (l.map (eC vars))]:=by
 have C:=BF vars vars.length;have Y:=Z.start w0;refine bI ar Tryz.func76 ?_;replace Y:=Y.nil (T:=W) (e:=3);refine O ?_;refine dP [5,5,7,7,10,28] (G:=Nat) (H:=Value) (fun k g=>[(10,E k),(5,g)]) (fun k g w=>k<=l.length/\Z w0 w [X W 3 g ((l.take k).map (eC vars))]) (fun k _=>l.length-k) 0 (nS) (fun _ _=>rfl) ⟨rfl,rfl,az⟩ ⟨bC _,Y⟩ ?_;clear Y;rintro P k g w ⟨hk,Y⟩;have D:((l.take k).map (eC vars)).length=k:=by rw[lA,jC];omega
 refine aC ?_ ?_<;>intro h1
 ·have h:k<l.length:=U
  obtain⟨Q,R,S,V⟩:=bX _ (cS aD.dflt h);have hv:(l.getD k aD.dflt).var.toNat<vars.length:=U;obtain⟨g0,g1,g2⟩:=Eu B q j hv;have g3:=q _ hv;have m:(l.take (k+1)).map (eC vars)=(l.take k).map (eC vars)++[(ew vars vars.length).getD (l.getD k aD.dflt).var.toNat W.dflt+(l.getD k aD.dflt).val]:=by
   rw[eX aD.dflt h,qG,g0];rfl
  refine dj ?_;intro p w Y;refine gi (pl [0,1,2,3,4,5,6,7,8,9,10,11,12,13,14] []) Y kr ?_;clear Y;intro w Y
  repeat (first|refine dS ?_|(refine gA ?_;clear Y;intro s w Y))
  rw[<-m]at Y;obtain⟨n,rfl⟩:=À s;exact⟨k+1,n,⟨rfl,rfl,az⟩,aX,⟨U,Y.bj⟩,U⟩
 have h:k=l.length:=U;rw[h,io (cP _)]at Y;refine O ?_;exact bo (v:=g) rfl rfl ⟨g,rfl,Y⟩
def tX.gD {U':List Un}{v:yp}{u:Un}(h:tX us U' w)(j:us.length=U'.length)(hv:GU w v u):tX (us++[v]) (U'++[u]) w:=fun i f=>by
 by_cases e:i<U'.length
 ·rw[TS U,TT e];exact h i e
 have g:i=U'.length:=by rw[length_append,w7]at f;omega
 rw[TU U,g,TV];exact hv
def Ĳ {vars:J}{p q:List bE}:nW (dZ (fW (p.map (eC vars)++q.map (eC vars)))) (cG vars q (cG vars p [])):=fun x=>by
 rw[EU,If,kK,iG,iG,zM,zM];simp
def ĳ (ht:bR w0 a b c d vs t)(I:aJ t) :
  Calls ak 54 #[.agg #[a,b,c,d]] w0 fun e w'=>∃ p a2 fv gv cv lv us,e=.returned (.tuple #[.pointer (some p),.nilIface])/\Z w0 w' [bA fun w=>wu w p t a2 fv gv cv lv us]:=by
 have j':=ht;obtain⟨ha,hb,hc,hd⟩:=ht;have _k:=hd.rs;have _l:=hd.len;have B:=I.vars;have _m:=I.M;have _n:=tR I.aF;have hN:=BG I;have H':∀ f∈t.aF,bV t.vars f:=fun f P=>by
  obtain⟨i,q,e⟩:=ga P;have:=(I.aF i q).1;rw[aq q,e]at this;exact this
 have y:=fun i q=>(I.pC i q).2;have Y:=Z.start w0;refine bI ar Tryz.func54 ?_;refine dj ?_;clear Y;intro C w Y;refine aR rfl (xL (j'.at Y)) ?_;rintro _ w' ⟨rfl,aw⟩;refine aL ?_;clear aw Y;intro Y;rw[ff ((tE t).2 I)];refine O ?_;refine aR rfl (pU (ha.at Y) U) ?_;rintro _ w' ⟨a2,rfl,aw⟩;refine aO ?_;clear aw Y;intro Y;have oa:=(bB (s:=a2) Y).one;refine O ?_;refine mX (vs:=[(0,a2)]) (ls:=[(0,[a2])]) rfl (by show [(0,a2.cells.toList)]=_;rw[BB oa]) rfl ?_;refine zx (vs:=[a2,nS,E 0,nS,nS,nS]) rfl Y ?_;clear Y;intro o w Y;replace Y:Z w0 w [am o 134 [a2,nS,E 0,nS,nS,nS],X W 3 a2 t.vars,am C 26 [a,b,c,d]]:=Y;replace Y:=Y.nil (T:=W) (e:=3);refine O ?_;refine dP [7,7,26,51] (G:=Nat) (H:=Value) (fun k _=>[(26,E k)]) (fun k fv w=>k<=t.vars.length/\Z w0 w [X W 3 fv (ew t.vars k),am o 134 [a2,fv,E (bP t.vars k),nS,nS,nS],X W 3 a2 t.vars,am C 26 [a,b,c,d]]) (fun k _=>t.vars.length-k) 0 (nS) (fun _ _=>rfl) ⟨rfl,az⟩ ⟨bC _,Y⟩ ?_;clear Y;rintro σ k fv w ⟨hk,Y⟩;have J':=BF t.vars k;refine aC ?_ ?_<;>intro h1
 ·have r:k<t.vars.length:=U
  have j:=I.pC k r;have l:=Ev I.pos (b:=k) U;have m:=Ga (fun i q=>(I.pC i q).2) (b:=k) U;refine O ?_;refine gi (pl [0,1,2,3,4,5,6,7,8,9] (.cY 4::pl [10,11,12,13] [])) Y kr ?_;clear Y;intro w Y
  repeat (first|refine dS ?_|(refine uP ?_;clear Y;intro w Y)|(refine gA ?_;clear Y;intro s w Y))
  simp only[mY,lO]at Y;rw[<-TW,<-Ew r]at Y;obtain⟨g,rfl⟩:=À s;exact⟨k+1,g,⟨rfl,az⟩,aX,⟨U,Y.tail⟩,U⟩
 have K:k=t.vars.length:=U;subst K;rw[<-uV I]at Y;refine O ?_;refine aR rfl (MV (rk (p:=o) Y) (bB (s:=fv) Y) I.pos y B (hc.at Y) H' U) ?_;rintro _ w' ⟨gv,rfl,aw⟩;refine aO ?_;clear aw Y;intro Y;have _o:=(bB (s:=gv) Y).one;refine jD ?_;clear Y;intro w Y;simp only[mY,lO]at Y;have m:Z w0 w (am o 134 [a2,fv,E (aZ t:Int),gv,(nS),(nS)]::X W 3 (nS) ((ao t).take 0)::X kL 138 (nS) ([]:List yp)::bA (tX ([]:List yp) (iK t 0))::X W 3 fv (ew t.vars t.vars.length)::X W 3 gv (eh t)::X W 3 a2 t.vars::[am C 26 [a,b,c,d]]):=by
  have g1:Z w0 w [X W 3 gv (eh t),X W 3 fv (ew t.vars t.vars.length),am o 134 [a2,fv,E (aZ t:Int),gv,nS,nS],X W 3 a2 t.vars,am C 26 [a,b,c,d]]:=Y;have g2:=Z.r6 (φ:=tX [] []) (fun w i q=>absurd q (eo _)) ((g1.nil (T:=W) (e:=3)).nil (T:=kL) (e:=138));have j:iK t 0=[]:=by simp[iK]
  rw[j,yn];exact g2.cu
 clear Y;have Y:=m;clear m;refine de [8,9,11,12,62,121] (G:=Nat) (fun k=>[(62,E k)]) (fun k w=>k<=t.M.length/\∃ cv lv us,us.length=(iK t k).length/\Z w0 w (am o 134 [a2,fv,E (aZ t:Int),gv,cv,lv]::X W 3 cv ((ao t).take k)::X kL 138 lv us::bA (tX us (iK t k))::X W 3 fv (ew t.vars t.vars.length)::X W 3 gv (eh t)::X W 3 a2 t.vars::[am C 26 [a,b,c,d]])) (fun k=>t.M.length-k) 0 (fun _=>rfl) ⟨rfl,az⟩ ⟨bC _,_,_,_,rfl,Y⟩ ?_;clear Y;rintro _p k w ⟨hk,cv,lv,us,g,Y⟩;refine aC ?_ ?_<;>intro h2
 ·have r:k<t.M.length:=U
  have D:=hd.eI k r;have _f:=D.one;have Q:=D.pre;have hgo:=I.op k r;have _q:=tR hgo.pre;have _r:=hgo.aQ;have P':=D.aT;obtain⟨es,L⟩:=D.aQ;have _g:=L.rs;have _h:=L.len;have _s:(ao t).length=t.M.length:=tC t;have _i:((ao t).take k).length=k:=by rw[jC];omega
  have R:(ao t).take (k+1)=(ao t).take k++[(aB cN vs k).aT]:=by rw[eX W.dflt U,tD r,P']
  refine dj ?_;clear Y;intro p9 w Y;refine gi (pl [0,1,2,3,4,5,6,7] (.cY 4::pl [8,9,10,11] [])) Y kr ?_;clear Y;intro w Y
  repeat (first|refine dS ?_|(refine uP ?_;clear Y;intro w Y)|(refine gA ?_;clear Y;intro s w Y))
  simp only[mY,lO]at Y;rw[<-R]at Y;obtain⟨l,rfl⟩:=À s;have m:Z w0 w (am o 134 [a2,fv,E (aZ t:Int),gv,l,lv]::X W 3 l ((ao t).take (k+1))::X kL 138 lv us::bA (tX us (iK t k++mZ t.vars k (t.M.getD k bz) 0))::am p9 44 (cN.enc (aB cN vs k))::X W 3 fv (ew t.vars t.vars.length)::X W 3 gv (eh t)::X W 3 a2 t.vars::[am C 26 [a,b,c,d]]):=by
   have j:mZ t.vars k (t.M.getD k bz) 0=[]:=rfl;rw[j,gj];exact Y.cu
  clear Y;have Y:=m;clear m;refine O ?_;refine de [11,12,81,120] (G:=Nat) (fun j=>[(81,E j)]) (fun j w=>j<=(t.M.getD k bz).aQ.length/\∃ lv us,us.length=(iK t k++mZ t.vars k (t.M.getD k bz) j).length/\Z w0 w (am o 134 [a2,fv,E (aZ t:Int),gv,l,lv]::X W 3 l ((ao t).take (k+1))::X kL 138 lv us::bA (tX us (iK t k++mZ t.vars k (t.M.getD k bz) j))::am p9 44 (cN.enc (aB cN vs k))::X W 3 fv (ew t.vars t.vars.length)::X W 3 gv (eh t)::X W 3 a2 t.vars::[am C 26 [a,b,c,d]])) (fun j=>(t.M.getD k bz).aQ.length-j) 0 (fun _=>rfl) ⟨rfl,az⟩ ⟨bC _,_,_,by rw[show mZ t.vars k (t.M.getD k bz) 0=[] from rfl,gj];exact g,Y⟩ ?_;clear Y g lv us;rintro _t j w ⟨hj,lv,us,g,Y⟩;refine aC ?_ ?_<;>intro h3
  ·have S:j<(t.M.getD k bz).aQ.length:=U
   have u:=L.eI j S;have A:=hgo.fS j S;have _j:=u.one;have R':=u.cb;have T':∀ f∈(t.M.getD k bz).pre,bV t.vars f:=fun f P=>by
    obtain⟨i,q,rfl⟩:=ga P;have:=(hgo.pre i q).1
    rwa[aq q]at this
   have V':∀ f∈((t.M.getD k bz).aQ.getD j bQ).cb,bV t.vars f:=fun f P=>by
    obtain⟨i,q,rfl⟩:=ga P;have:=(A.1 i q).1
    rwa[aq q]at this
   have _u:=tR A.1;refine dj ?_;clear Y;intro _a w Y;refine gi (pl [0,1,2,4,5,6,3] (.cY 6::pl [7,8,9] [])) Y kr ?_;clear Y;intro w Y;refine O ?_;refine aR rfl (MV (rk (p:=o) Y) (bB (s:=fv) Y) I.pos y B (Q.at Y) T' U) ?_;rintro _ w' ⟨n1,rfl,aw⟩;refine aO ?_;clear aw Y;intro Y;refine O ?_;refine aR rfl (MV (rk (p:=o) Y) (bB (s:=fv) Y) I.pos y B (R'.at Y) V' U) ?_;rintro _ w' ⟨n2,rfl,aw⟩;refine aO ?_;clear aw Y;intro Y;have _v:((t.M.getD k bz).pre.map (eC t.vars)).length=(t.M.getD k bz).pre.length:=lA _;have _w:(((t.M.getD k bz).aQ.getD j bQ).cb.map (eC t.vars)).length=((t.M.getD k bz).aQ.getD j bQ).cb.length:=lA _;refine qJ ?_;clear Y;intro s w Y;obtain⟨nd,rfl⟩:=À s;have m:Z w0 w (X W 3 nd ((t.M.getD k bz).pre.map (eC t.vars)++((t.M.getD k bz).aQ.getD j bQ).cb.map (eC t.vars))::am _a 61 (bm.enc (aB bm es j))::am p9 44 (cN.enc (aB cN vs k))::am o 134 [a2,fv,E (aZ t:Int),gv,l,lv]::X W 3 l ((ao t).take (k+1))::X kL 138 lv us::bA (tX us (iK t k++mZ t.vars k (t.M.getD k bz) j))::X W 3 fv (ew t.vars t.vars.length)::X W 3 gv (eh t)::X W 3 a2 t.vars::[am C 26 [a,b,c,d]]):=Y.cu;have _x:((t.M.getD k bz).pre.map (eC t.vars)++((t.M.getD k bz).aQ.getD j bQ).cb.map (eC t.vars)).length<=128:=by rw[length_append];omega
   refine aR rfl (Fb (s:=nd) m U) ?_;clear Y m;rintro _ w ⟨rfl,Y⟩;refine⟨_,rfl,?_⟩;have _b:bV t.vars ⟨(aB bm es j).var,(aB bm es j).val⟩:=by rw[u.var,u.val];exact uW A
   obtain⟨x0,x1,x2,x3⟩:=_b;have y0:0<=(aB bm es j).var:=x0;have y1:(aB bm es j).var<t.vars.length:=x1;have y2:0<=(aB bm es j).val:=x2;have y3:(aB bm es j).val<t.vars.getD (aB bm es j).var.toNat W.dflt:=x3;clear x0 x1 x2 x3;have hv:(aB bm es j).var.toNat<t.vars.length:=U;obtain⟨g0,g1,g2⟩:=Eu I.pos y B hv;have g3:=y _ hv;rw[<-g0]at g1 g2;have J':=BF t.vars t.vars.length;have _y:us.length<=1048576:=by
    have n:=CN I (k:=k) U;rw[g,length_append,CO];omega
   refine O ?_;refine gi (pl [0,1,2,3,4,5,6,7,8,9,10,11,12,13,14,15,16,17,18] (.cY 4::.cY 9::.cY 11::.cY 13::.cY 15::pl [19] (.cY 4::pl [20] (.cY 4::pl [21,22,23,24] [])))) Y kr ?_;clear Y;intro w Y;refine O ?_;refine aR rfl (Ig (s:=nd) Y (by rw[Fw];omega)) ?_;clear Y;rintro _ w ⟨n,rfl,Y⟩;refine⟨_,rfl,?_⟩;have V:=(bB (s:=n) Y).one;refine O ?_;have _c:(ew t.vars t.vars.length).getD (aB bm es j).var.toNat W.dflt+(aB bm es j).val=eC t.vars ⟨((t.M.getD k bz).aQ.getD j bQ).var,((t.M.getD k bz).aQ.getD j bQ).val⟩:=by
    rw[g0,u.var,u.val];rfl
   rw[_c];obtain⟨mk,F⟩:=À (eC t.vars ⟨((t.M.getD k bz).aQ.getD j bQ).var,((t.M.getD k bz).aQ.getD j bQ).val⟩);rw[<-F];refine Cy (v1:=E (k:Int)) (v2:=E mk) (v3:=n) rfl rfl rfl rfl (by simp only[fo,fB,V];rfl) ?_;refine O ?_;refine jA kL (x1:=⟨k,mk,n⟩) rfl rfl rfl (fP rfl) (fg _) Y ?_;clear Y;intro sl w Y;refine O ?_;refine sF (s:=lv) (s2:=sl) inferInstance rfl rfl (bB Y) rfl rfl (fun x hx v hv=>?_) (by simp only[length_cons,length_nil];omega) (by unfold cn;simp only[length_cons,length_nil];omega) Y ?_
   ·rw[fU.1 hx]at hv
    simp only[kL,gT,jd,pQ]at hv;rcases hv with rfl|rfl|rfl
    ·rfl
    ·rfl
    exact V
   clear Y;intro N w Y;refine jD ?_;clear Y;intro w Y;simp only[mY,lO]at Y;have _d:Z w0 w (X W 3 n (dZ (fW ((t.M.getD k bz).pre.map (eC t.vars)++((t.M.getD k bz).aQ.getD j bQ).cb.map (eC t.vars))))::bA (tX us (iK t k++mZ t.vars k (t.M.getD k bz) j))::am o 134 [a2,fv,E (aZ t:Int),gv,l,N]::X W 3 l ((ao t).take (k+1))::X kL 138 N (us++[⟨k,mk,n⟩])::am p9 44 (cN.enc (aB cN vs k))::X W 3 fv (ew t.vars t.vars.length)::X W 3 gv (eh t)::X W 3 a2 t.vars::[am C 26 [a,b,c,d]]):=Y.cu
   have _e:=Z.rd (Δ:=[X W 3 n (dZ (fW ((t.M.getD k bz).pre.map (eC t.vars)++((t.M.getD k bz).aQ.getD j bQ).cb.map (eC t.vars)))),bA (tX us (iK t k++mZ t.vars k (t.M.getD k bz) j))]) (φ:=tX (us++[⟨k,mk,n⟩]) (iK t k++mZ t.vars k (t.M.getD k bz) (j+1))) (fun _ w h=>by
    rw[MW,<-fk]
    exact(h.dQ 1 rfl).gD g ⟨rfl,F,_,h.rs 0 rfl,Ĳ⟩) _d
   exact⟨j+1,⟨rfl,az⟩,aX,⟨U,N,us++[⟨k,mk,n⟩],by rw[MW,<-fk,length_append,length_append,g];rfl,_e.cu⟩,U⟩
  have n:j=(t.M.getD k bz).aQ.length:=U;subst n;rw[<-Ax]at Y g;refine O ?_;exact⟨k+1,⟨rfl,az⟩,aX,⟨U,l,lv,us,g,Y.cu⟩,U⟩
 have K:k=t.M.length:=U;subst K;rw[io (by rw[tC];exact cP _)]at Y;refine O ?_;have j:=Z.rd (Δ:=[am o 134 [a2,fv,E (aZ t:Int),gv,cv,lv],X W 3 cv (ao t),X kL 138 lv us,bA (tX us (cz t)),X W 3 fv (ew t.vars t.vars.length),X W 3 gv (eh t),X W 3 a2 t.vars]) (φ:=fun w=>wu w o t a2 fv gv cv lv us) (fun _ w h=>⟨h.dA 0 rfl,h.rs 6 rfl,h.rs 4 rfl,h.rs 5 rfl,h.rs 1 rfl,h.rs 2 rfl,g,h.dQ 3 rfl⟩) Y;exact dw (v:=.pointer (some o)) (v':=.nilIface) rfl rfl rfl ⟨o,a2,fv,gv,cv,lv,us,rfl,j.bj⟩
def wu.at {w0 w:World}{Γ:List HP}{o:Addr}{t:aa}{a fv gv cv lv:Value}{us:List yp}(h:wu w0 o t a fv gv cv lv us)(Y:Z w0 w Γ):wu w o t a fv gv cv lv us :=
 ⟨h.box.at Y,h.vars.at Y,h.fst.at Y,h.aF.at Y,h.aN.at Y,h.C9.at Y,h.len,h.un.at Y⟩
def Ĵ {gv cv:Value}(h:wu w o t a fv gv cv lv us)(I:aJ t):gW w (.iface 98 (.pointer (some o))) t (pX t) :=
 ⟨_,_,_,_,rfl,Jj _,inferInstance,fun _ _ _ _ f e bX=>İ (h.at f) I e bX⟩
def RA (j:bR w0 a b c d vs t)(I:aJ t) :
  Calls ak 28 #[.agg #[a,b,c,d]] w0 fun e w'=>∃ p,e=.returned (.tuple #[.pointer (some p),.nilIface])/\Z w0 w' [bA fun w=>cF w p t (pX t)]:=by
 have Y:=Z.start w0;refine bI ar Tryz.func28 ?_;refine dj ?_;intro l w Y;refine aR rfl (ĳ (j.at Y) I) ?_;rintro _ w' ⟨o,a2,fv,gv,k,lv,us,rfl,aw⟩;refine aO ?_;clear aw Y;intro Y;refine O ?_;refine aR rfl (zT (h:=.iface 98 (.pointer (some o))) (H:=pX t) (j.at Y) I ⟨_,_,rfl⟩) ?_;rintro _ w' ⟨f,rfl,aw⟩;refine aO ?_;clear aw Y;intro Y;refine O ?_;have g:Z w0 w' [bA fun w=>gW w (.iface 98 (.pointer (some o))) t (pX t)->cF w f t (pX t),bA fun w=>wu w o t a2 fv gv k lv us,am l 26 [a,b,c,d]]:=Y;have i:=Z.rd (Δ:=[bA fun w=>gW w (.iface 98 (.pointer (some o))) t (pX t)->cF w f t (pX t),bA fun w=>wu w o t a2 fv gv k lv us]) (φ:=fun w=>cF w f t (pX t)) (fun _ w h=>(h.dQ 0 rfl) (Ĵ (h.dQ 1 rfl) I)) g;exact dw (v:=.pointer (some f)) (v':=.nilIface) rfl rfl rfl ⟨f,rfl,i.bj⟩
structure qU (w:World) (o:Addr) (t:aa):Prop where
 ex:∃ a c fv uv nv frv us ss,eJ w o [a,nS,c,nS,fv,E (aZ t:Int),uv,nv,frv]/\RS W w a t.vars/\RS aD w c t.aF/\RS W w fv (ew t.vars t.vars.length)/\RS my w uv us/\us.length=(cz t).length/\pY us (cz t) w/\RS aA w nv ss/\ss.length=aZ t/\(∀ f,f<aZ t->RS W w (cL ss f) (e7 (cz t) f))/\RS W w frv (eQ (cz t))
def ĵ (ht:bR w0 a b c d vs t)(I:aJ t) :
  Calls ak 53 #[.agg #[a,b,c,d],nS] w0 fun e w'=>∃ p,e=.returned (.tuple #[.pointer (some p),.nilIface])/\Z w0 w' [bA fun w=>qU w p t]:=by
 have J':=ht;obtain⟨ha,hb,hc,hd⟩:=ht;have _l:=hd.rs;have _m:=hd.len;have Q:=I.vars;have _n:=I.M;have _o:=tR I.aF;have Y:=Z.start w0;refine bI ar Tryz.func53 ?_;refine dj ?_;clear Y;intro A w Y;refine aR rfl (xL (J'.at Y)) ?_;rintro _ w' ⟨rfl,aw⟩;refine aL ?_;clear aw Y;intro Y;rw[ff ((tE t).2 I)];replace Y:=Y.nil (T:=W) (e:=3);have hz:(([]:J).length:Int)=0:=rfl;refine O ?_;refine de [4,5,8,8,36,47] (G:=Unit) (fun _=>[(36,E 0)]) (fun _ w=>Z w0 w [X W 3 (nS) [],am A 26 [a,b,c,d]]) (fun _=>0) () (fun _=>rfl) ⟨rfl,az⟩ Y ?_;clear Y;rintro σ _ w Y;refine O ?_;replace Y:=Y.tail;refine gi (pl [0,1,3,4,2] (.cY 4::pl [5,6,7,8,9] [])) Y kr ?_;clear Y;intro w Y;refine O ?_;refine aR rfl (pU (ha.at Y) U) ?_;rintro _ w' ⟨a2,rfl,aw⟩;refine aO ?_;clear aw Y;intro Y;refine O ?_;refine aR rfl (Ff (hc.at Y) U) ?_;rintro _ w' ⟨c2,rfl,aw⟩;refine aO ?_;clear aw Y;intro Y;refine O ?_;have oa:=(bB (s:=a2) Y).one;have oc:=(bB (s:=c2) Y).one;refine zr (v1:=a2) (v2:=c2) rfl rfl rfl (by simp only[fo,fB,oa,oc];rfl) ?_;refine O ?_;refine mX (vs:=[(0,.agg #[a2,nS,c2,nS])]) (ls:=[(0,[a2,nS,c2,nS])]) rfl rfl rfl ?_;refine dj ?_;clear Y;intro o w Y;replace Y:Z w0 w [am o 127 [a2,nS,c2,nS,nS,E 0,nS,nS,nS],X aD 63 c2 t.aF,X W 3 a2 t.vars,am A 26 [a,b,c,d]]:=Y;replace Y:=Y.nil (T:=W) (e:=3);refine dP [11,11,60,85] (G:=Nat) (H:=Value) (fun k _=>[(60,E k)]) (fun k fv w=>k<=t.vars.length/\Z w0 w [X W 3 fv (ew t.vars k),am o 127 [a2,nS,c2,nS,fv,E (bP t.vars k),nS,nS,nS],X aD 63 c2 t.aF,X W 3 a2 t.vars,am A 26 [a,b,c,d]]) (fun k _=>t.vars.length-k) 0 (nS) (fun _ _=>rfl) ⟨rfl,az⟩ ⟨bC _,Y⟩ ?_
 clear Y;rintro σ k fv w ⟨hk,Y⟩;have _p:=BF t.vars k;refine aC ?_ ?_<;>intro h1
 ·have y:k<t.vars.length:=U
  have g:=I.pC k y;have j:=Ev I.pos (b:=k) U;have l:=Ga (fun i u=>(I.pC i u).2) (b:=k) U;refine O ?_;refine gi (pl [0,1,2,3,4,5,6,7,8,9] (.cY 4::pl [10,11,12,13] [])) Y kr ?_;clear Y;intro w Y
  repeat (first|refine dS ?_|(refine uP ?_;clear Y;intro w Y)|(refine gA ?_;clear Y;intro s w Y))
  rw[<-TW,<-Ew y]at Y;exact⟨k+1,s,⟨rfl,az⟩,aX,⟨U,Y.tail⟩,U⟩
 have D:k=t.vars.length:=U;subst D;rw[<-uV I]at Y;have hN:=BG I;refine qJ ?_;clear Y;intro s w Y;obtain⟨q,rfl⟩:=À s;have m:Z w0 w (ai W 3 (replicate (aZ t) (nS)) (gZ (iK t 0) (aZ t))::X aA 22 q (replicate (aZ t) (nS))::am o 127 [a2,nS,c2,nS,fv,E (aZ t:Int),(nS),q,(nS)]::X W 3 fv (ew t.vars t.vars.length)::X my 131 (nS) ([]:List zN)::bA (pY ([]:List zN) (iK t 0))::X W 3 (nS) (eQ (iK t 0))::X W 3 (nS) []::X aD 63 c2 t.aF::X W 3 a2 t.vars::[am A 26 [a,b,c,d]]):=by
  rw[jU]at Y;have g1:Z w0 w [X aA 22 q (replicate (aZ t) (nS)),X W 3 fv (ew t.vars t.vars.length),am o 127 [a2,nS,c2,nS,fv,E (aZ t:Int),nS,q,nS],X aD 63 c2 t.aF,X W 3 a2 t.vars,am A 26 [a,b,c,d]]:=Y;have g2:=Z.r6 (φ:=pY [] []) (fun w i u=>absurd u (eo _)) ((((g1.nil (T:=W) (e:=3)).nil (T:=W) (e:=3)).nil (T:=my) (e:=131)).iJ (T:=W) (e:=3) (aZ t));have j:iK t 0=[]:=by simp[iK]
  rw[<-Ķ]at g2;rw[j,ķ];exact g2.cu
 clear Y;have Y:=m;clear m;refine de [12,16,97,137] (G:=Nat) (fun k=>[(97,E k)]) (fun k w=>k<=t.M.length/\∃ n g us l,us.length=(iK t k).length/\Z w0 w (ai W 3 l (gZ (iK t k) (aZ t))::X aA 22 q l::am o 127 [a2,nS,c2,nS,fv,E (aZ t:Int),n,q,g]::X W 3 fv (ew t.vars t.vars.length)::X my 131 n us::bA (pY us (iK t k))::X W 3 g (eQ (iK t k))::X W 3 (nS) []::X aD 63 c2 t.aF::X W 3 a2 t.vars::[am A 26 [a,b,c,d]])) (fun k=>t.M.length-k) 0 (fun _=>rfl) ⟨rfl,az⟩ ⟨bC _,_,_,_,_,rfl,Y⟩ ?_;clear Y;rintro _q k w ⟨hk,n,g,us,l,r,Y⟩;refine aC ?_ ?_<;>intro h2
 ·have y:k<t.M.length:=U
  have B:=hd.eI k y;have _h:=B.one;have R:=B.pre;have hgo:=I.op k y;have _r:=tR hgo.pre;have _s:=hgo.aQ;obtain⟨es,F⟩:=B.aQ;have _i:=F.rs;have _j:=F.len;refine dj ?_;clear Y;intro K w Y;have m:Z w0 w (ai W 3 l (gZ (iK t k++mZ t.vars k (t.M.getD k bz) 0) (aZ t))::X aA 22 q l::am o 127 [a2,nS,c2,nS,fv,E (aZ t:Int),n,q,g]::X W 3 fv (ew t.vars t.vars.length)::X my 131 n us::bA (pY us (iK t k++mZ t.vars k (t.M.getD k bz) 0))::X W 3 g (eQ (iK t k++mZ t.vars k (t.M.getD k bz) 0))::am K 44 (cN.enc (aB cN vs k))::X W 3 (nS) []::X aD 63 c2 t.aF::X W 3 a2 t.vars::[am A 26 [a,b,c,d]]):=by
   have j:mZ t.vars k (t.M.getD k bz) 0=[]:=rfl;rw[j,gj];exact Y.cu
  clear Y;have Y:=m;clear m;refine de [15,16,114,136] (G:=Nat) (fun j=>[(114,E j)]) (fun j w=>j<=(t.M.getD k bz).aQ.length/\∃ n g us l,us.length=(iK t k++mZ t.vars k (t.M.getD k bz) j).length/\Z w0 w (ai W 3 l (gZ (iK t k++mZ t.vars k (t.M.getD k bz) j) (aZ t))::X aA 22 q l::am o 127 [a2,nS,c2,nS,fv,E (aZ t:Int),n,q,g]::X W 3 fv (ew t.vars t.vars.length)::X my 131 n us::bA (pY us (iK t k++mZ t.vars k (t.M.getD k bz) j))::X W 3 g (eQ (iK t k++mZ t.vars k (t.M.getD k bz) j))::am K 44 (cN.enc (aB cN vs k))::X W 3 (nS) []::X aD 63 c2 t.aF::X W 3 a2 t.vars::[am A 26 [a,b,c,d]])) (fun j=>(t.M.getD k bz).aQ.length-j) 0 (fun _=>rfl) ⟨rfl,az⟩ ⟨bC _,_,_,_,_,by rw[show mZ t.vars k (t.M.getD k bz) 0=[] from rfl,gj];exact r,Y⟩ ?_;clear Y r n g us l;rintro _t j w ⟨hj,n,g,us,l,r,Y⟩;refine aC ?_ ?_<;>intro h3
  ·have S:j<(t.M.getD k bz).aQ.length:=U
   have x:=F.eI j S;have L:=hgo.fS j S;have _k:=x.one;have P':=x.cb;refine dj ?_;clear Y;intro R' w Y;refine gi (pl [0,1,2,3,4,5,6,7,8,12,13,14,15,9] (.cY 13::.cY 15::pl [10] (.cY 13::.cY 15::pl [11] (.cY 13::.cY 15::pl [16] [])))) Y kr ?_;clear Y;intro w Y;refine O ?_;have T':bV t.vars ⟨(aB bm es j).var,(aB bm es j).val⟩:=by rw[x.var,x.val];exact uW L
   refine aR rfl (MX (f:=⟨(aB bm es j).var,(aB bm es j).val⟩) (rk (p:=o) Y) (bB (s:=fv) Y) I.pos (fun i u=>(I.pC i u).2) Q T') ?_;rintro _ w' ⟨rfl,aw⟩;refine aL ?_;clear aw Y;intro Y;refine O ?_;refine Č (v1:=E (k:Int)) (v2:=E (j:Int)) (v3:=E (aB cN vs k).aT) (v4:=E (eC t.vars ⟨(aB bm es j).var,(aB bm es j).val⟩)) rfl rfl rfl rfl rfl rfl ?_;refine O ?_;have V':RS aD w0 (aB cN vs k).pre (t.M.getD k bz).pre:=R;have _a:∀ f∈(t.M.getD k bz).pre,bV t.vars f:=fun f P=>by
    obtain⟨i,u,rfl⟩:=ga P;have:=(hgo.pre i u).1
    rwa[aq u]at this
   have _b:∀ f∈((t.M.getD k bz).aQ.getD j bQ).cb,bV t.vars f:=fun f P=>by
    obtain⟨i,u,rfl⟩:=ga P;have:=(L.1 i u).1
    rwa[aq u]at this
   have _u:=tR L.1;have _c:(iK t k++mZ t.vars k (t.M.getD k bz) j).length<=1048576:=by
    have C:=CN I (k:=k) U;rw[length_append,CO];omega
   have m:Z w0 w' (ai W 3 l (gZ (iK t k++mZ t.vars k (t.M.getD k bz) j) (aZ t))::X aA 22 q l::am o 127 [a2,nS,c2,nS,fv,E (aZ t:Int),n,q,g]::X W 3 fv (ew t.vars t.vars.length)::X my 131 n us::bA (pY us (iK t k++mZ t.vars k (t.M.getD k bz) j))::X W 3 g (eQ (iK t k++mZ t.vars k (t.M.getD k bz) j))::am R' 61 (bm.enc (aB bm es j))::am K 44 (cN.enc (aB cN vs k))::X W 3 (nS) []::X aD 63 c2 t.aF::X W 3 a2 t.vars::[am A 26 [a,b,c,d]]):=Y.cu;refine aR rfl (ĸ (l1:=(t.M.getD k bz).pre) (l2:=((t.M.getD k bz).aQ.getD j bQ).cb) (vars:=t.vars) (N:=aZ t) I.pos (fun i u=>(I.pC i u).2) Q (uV I) hN _c V' P' _a _b U U r m) ?_;clear Y m;rintro _ w ⟨rfl,_d,V,_e,_f,C,Y⟩;refine⟨_,rfl,?_⟩;have j':=x.var;have H':=x.val;have _g:=B.aT;rw[j',H',_g,fk,show Un.mk (k:Int) (j:Int) (t.M.getD k bz).aT (eC t.vars ⟨((t.M.getD k bz).aQ.getD j bQ).var,((t.M.getD k bz).aQ.getD j bQ).val⟩) (cG t.vars ((t.M.getD k bz).aQ.getD j bQ).cb (cG t.vars (t.M.getD k bz).pre []))=Ay t.vars k (t.M.getD k bz) j from rfl,<-MW]at Y C;refine O ?_;exact⟨j+1,⟨rfl,az⟩,aX,⟨U,_d,V,_e,_f,C,Y.cu⟩,U⟩
  have u:j=(t.M.getD k bz).aQ.length:=U;subst u;rw[<-Ax]at Y r;refine O ?_;exact⟨k+1,⟨rfl,az⟩,aX,⟨U,n,g,us,l,r,Y.cu⟩,U⟩
 have D:k=t.M.length:=U;subst D;have j:l.length=aZ t:=by rw[Y.bU,MY]
 refine O ?_
 have u:=Z.rd (Δ:=[ai W 3 l (gZ (iK t t.M.length) (aZ t)),X aA 22 q l,am o 127 [a2,nS,c2,nS,fv,E (aZ t:Int),n,q,g],X W 3 fv (ew t.vars t.vars.length),X my 131 n us,bA (pY us (iK t t.M.length)),X W 3 g (eQ (iK t t.M.length)),X W 3 (nS) [],X aD 63 c2 t.aF,X W 3 a2 t.vars]) (φ:=fun w=>qU w o t) (fun _ w h=>by
  refine⟨a2,c2,fv,n,q,g,us,l,h.dA 2 rfl,h.rs 9 rfl,h.rs 8 rfl,h.rs 3 rfl,h.rs 4 rfl,r,h.dQ 5 rfl,h.rs 1 rfl,j,fun f P=>?_,h.rs 6 rfl⟩;have h3:Z _ w [ai W 3 l (gZ (iK t t.M.length) (aZ t))]:=h.bj;have x:=h3.row (i:=f) (by rw[MY];exact P);rw[Ĺ P]at x
  exact x) Y
 exact dw (v:=.pointer (some o)) (v':=.nilIface) rfl rfl rfl ⟨o,rfl,u.bj⟩
end Go.Proofs.YtmapkjoefdgjfaaGreatDoor
