/- Several texts. -/
import Derived.Test.YtmapkjoefdgjfaaGreatDoorMW29D
set_option linter.unusedSimpArgs false
set_option linter.unusedVariables false
set_option linter.defProp false
set_option maxRecDepth 8000
set_option maxHeartbeats 16000000
open List Nat
namespace Go.Proofs.YtmapkjoefdgjfaaGreatDoor
open Go.Sl Go
variable {a b c d fv lv:Value}{t:aa}{w0 w:World}{vs:List iX}{z:J}{o:Addr}{us:List wJ}
attribute [local irreducible] vc opsW opsD opV opW PureV ReadV Thn Blk
instance M8:pu aj 102 "Value" 273 := ⟨kr⟩
def Yl {sv:Value}{kind:Int}(hO:kind=3->wU)(f:1<=kind)(g:kind<=3)(i:bz w0 a b c d vs t)(I:aC t)(j:RS O w0 sv z)(bI:ab t.vars z) :
  Calls aj 273 #[.agg #[a,b,c,d,E kind],sv] w0 fun e w'=>e=.returned (E (jQ t kind z))/\M w0 w' []:=by
 have Y:=M.start w0;obtain⟨V,h⟩:=À (ra t z kind);have hH:jQ t kind z=if V.1=0 then V.2 else 0:=by rw[h];rfl
 rw[hH];refine bB ao Tryz.func273 ?_;refine eB ?_;intro p w Y;refine rW rfl (z8 (k:=0) (n:=4) (vs:=[a,b,c,d]) rfl (Y.gB 0 rfl) rfl rfl) ?_;refine W ?_;refine aU rfl (Ym hO f g (i.at Y) I (j.at Y) bI) ?_;refine j7 ?_;clear Y;intro w' Y;rw[<-h];by_cases he:V.1=0
 ·rw[aP he,gy he]
  refine W ?_;exact bk (v:=E V.2) rfl rfl ⟨rfl,iY Y⟩
 rw[aH he,dq he];refine W ?_;exact bk (v:=E 0) rfl rfl ⟨rfl,iY Y⟩
def Yn {kind:Int}(hO:kind=3->wU)(e:1<=kind)(f:kind<=3)(h:bz w a b c d vs t)(I:aC t):gb w (.iface 102 (.agg #[a,b,c,d,E kind])) t (jQ t kind) :=
 ⟨_,_,_,_,rfl,FH _,inferInstance,fun _ _ _ _ i g bI=>Yl hO e f (h.at i) I g bI⟩
def QU {h:Value}{k:Int}(f:∃ T v,h=.iface T v) :
  Calls aj 37 #[.agg #[a,b,c,d],h,.iface 57 (E k)] w0 fun e w'=>e=.returned (.tuple #[.pointer none,.iface 57 (E k)])/\M w0 w' []:=by
 obtain⟨T,v,rfl⟩:=f;have Y:=M.start w0;refine bB ao Tryz.func37 ?_;refine eB ?_;intro p w Y;exact cX (v:=.pointer none) (v':=.iface 57 (E k)) rfl rfl rfl ⟨rfl,iY Y⟩
def Yo {kind:Int}(hO:kind=3->wU)(l:bz w0 a b c d vs t)(I:aC t) :
  Calls aj 29 #[.agg #[a,b,c,d],E kind] w0 fun e w'=>((kind<1\/3<kind)/\e=.returned (.tuple #[.pointer none,bO 1])/\M w0 w' [])\/∃ p,(1<=kind/\kind<=3)/\e=.returned (.tuple #[.pointer (some p),.nilIface])/\M w0 w' [bj fun w=>cy w p t (jQ t kind)]:=by
 have Y:=M.start w0;refine bB ao Tryz.func29 ?_;refine eB ?_;intro p w Y;obtain⟨y,rfl⟩:=À p;refine aU rfl (vY (l.at Y)) ?_;refine j7 ?_;clear Y;intro w' Y;rw[gy ((rQ t).2 I)];by_cases q:kind<1\/3<kind
 ·by_cases m:kind<1
  ·have g:decide (kind<1)=true:=dY m
   refine W ?_
   try simp only[g];refine tH ?_
   refine W ?_;refine fQ (pl [0,1,2] (.cJ 0::pl [3,4] (.cJ 0::pl [5,6,7,8,9,10,11] []))) Y kr ?_;clear Y;intro w Y;refine W ?_;refine aU rfl (F7 (l.at Y) I) ?_;rintro _ w' ⟨a2,f,c2,d2,i,rfl,an⟩;refine aL ?_;clear an Y;intro Y;refine W ?_;refine sd (vs:=[(0,.agg #[a2,f,c2,d2]),(1,E kind)]) (ls:=[(0,[a2,f,c2,d2]),(1,[E kind])]) rfl rfl rfl ?_;refine W ?_;refine aU rfl (QU (h:=.iface 102 (.agg #[a2,f,c2,d2,E kind])) (k:=1) ⟨_,_,rfl⟩) ?_;refine lU ?_;intro w' Y;exact cX (v:=.pointer none) (v':=.iface 57 (E 1)) rfl rfl rfl (.inl ⟨q,by rw[dq dc],iY Y⟩)
  have g:decide (kind<1)=false:=eA m;have j:decide (3<kind)=true:=dY U;refine W ?_
  try simp only[g,j];refine tH ?_
  refine W ?_;refine fQ (pl [0,1,2] (.cJ 0::pl [3,4] (.cJ 0::pl [5,6,7,8,9,10,11] []))) Y kr ?_;clear Y;intro w Y;refine W ?_;refine aU rfl (F7 (l.at Y) I) ?_;rintro _ w' ⟨a2,f,c2,d2,i,rfl,an⟩;refine aL ?_;clear an Y;intro Y;refine W ?_;refine sd (vs:=[(0,.agg #[a2,f,c2,d2]),(1,E kind)]) (ls:=[(0,[a2,f,c2,d2]),(1,[E kind])]) rfl rfl rfl ?_;refine W ?_;refine aU rfl (QU (h:=.iface 102 (.agg #[a2,f,c2,d2,E kind])) (k:=1) ⟨_,_,rfl⟩) ?_;refine lU ?_;intro w' Y;exact cX (v:=.pointer none) (v':=.iface 57 (E 1)) rfl rfl rfl (.inl ⟨q,by rw[dq dc],iY Y⟩)
 have g:decide (kind<1)=false:=eA U;have j:decide (3<kind)=false:=eA U;have m:1<=kind:=U;have n:kind<=3:=U;refine W ?_
 try simp only[g,j];refine tH ?_
 refine W ?_;refine fQ (pl [0,1,2] (.cJ 0::pl [3,4] (.cJ 0::pl [5,6,7,8,9,10,11] []))) Y kr ?_;clear Y;intro w Y;refine W ?_;refine aU rfl (F7 (l.at Y) I) ?_;rintro _ w' ⟨a2,f,c2,d2,i,rfl,an⟩;refine aL ?_;clear an Y;intro Y;refine W ?_;refine sd (vs:=[(0,.agg #[a2,f,c2,d2]),(1,E kind)]) (ls:=[(0,[a2,f,c2,d2]),(1,[E kind])]) rfl rfl rfl ?_;refine W ?_;refine aU rfl (yf (h:=.iface 102 (.agg #[a2,f,c2,d2,E kind])) (H:=jQ t kind) (l.at Y) I ⟨_,_,rfl⟩) ?_;rintro _ w' ⟨r,rfl,an⟩;refine aL ?_;clear an Y;intro Y;refine W ?_;have u:M w0 w' [bj fun w=>gb w (.iface 102 (.agg #[a2,f,c2,d2,E kind])) t (jQ t kind)->cy w r t (jQ t kind),bj fun w=>bz w a2 f c2 d2 i t,ak y 26 [a,b,c,d]]:=Y;have x:=M.rd (Δ:=[bj fun w=>gb w (.iface 102 (.agg #[a2,f,c2,d2,E kind])) t (jQ t kind)->cy w r t (jQ t kind),bj fun w=>bz w a2 f c2 d2 i t]) (φ:=fun w=>cy w r t (jQ t kind)) (fun _ w h=>(h.cU 0 rfl) (Yn hO m n (h.cU 1 rfl) I)) u;exact cX (v:=.pointer (some r)) (v':=.nilIface) rfl rfl rfl (.inr ⟨r,⟨m,n⟩,rfl,x.bb⟩)
def sI:J->Int
 | []=>0
 | x::l=>x+sI l
def KE:∀ (a b:J),sI (a++b)=sI a+sI b
 | [],b=>by show sI b=0+sI b;omega
 | x::a,b=>by
  show x+sI (a++b)=x+sI a+sI b;rw[KE a b];omega
def xf:∀ {l:J},(∀ x∈l,0<=x)->0<=sI l
 | [],_=>du _
 | x::l,h=>by
  have h1:=h x gA;have f:=xf fun y e=>h y (iR x e);show 0<=x+sI l;omega
def QV {l:J}(h:∀ x∈l,0<=x)(k:Nat):0<=sI (l.take k)/\sI (l.take k)<=sI l:=by
 have h1:=KE (l.take k) (l.drop k);rw[yC]at h1;have e:=xf (l:=l.take k) fun x hx=>h x (pU hx);have f:=xf (l:=l.drop k) fun x hx=>h x (JX hx);omega
def QW:∀ (L:List (List Nat × Int)),ml L=sI (L.map Prod.snd)
 | []=>rfl
 | x::L=>by
  show x.2+ml L=x.2+sI (L.map Prod.snd);rw[QW L]
def Yp {cs:J}{r:Option (List (List Nat × Int))}(h:q7 t z cs r):eu t cs->∀ l,r=some l->∀ x∈l,0<=x.2:=by
 induction h with
 | qa _ _=>intro _ l e;cases e
 | done _ _=>intro _ l e x hx;cases e;exact absurd hx fM
 | @step cs V g0 K c r _ _ _ _ _ _ j _ n =>
  intro k l e x hx;have f:=Ed k j;obtain⟨⟨i,i1,i2,i3⟩,i4⟩:=j;have g:0<=c:=by have:=k.2 _ (cD O.dflt i2);omega
  cases r with
  | none=>cases e
  | some m =>
   have q:l=(K,c)::m:=(Bh e).symm;subst q;rcases dZ.1 hx with u|hx
   ·rw[u];exact g
   exact n f m rfl x hx
def Yq {gv r sv:Value}(T:uK w0 o t a fv gv r lv us)(I:aC t)(V:RS O w0 sv z)(bI:ab t.vars z) :
  Calls aj 266 #[.pointer (some o),sv] w0 fun e w'=>e=.returned (E (pR t z))/\M w0 w' []:=by
 have Y:=M.start w0;refine bB ao Tryz.func266 ?_;refine W ?_;obtain⟨hb,u,A,B,C,D,F,hF⟩:=T;refine aU rfl (Yr ⟨hb.at Y,u.at Y,A.at Y,B.at Y,C.at Y,D.at Y,F,hF.at Y⟩ I (V.at Y) bI) ?_;rintro _ w' (⟨h,rfl,an⟩|⟨Q,L,cl,h,rfl,i,j,an⟩)
 ·replace Y:=Y.cr an
  clear an;refine⟨_,rfl,?_⟩;rw[dq (show (3:Int)≠0 by decide)];refine W ?_;exact bk (v:=E 1125899906842624) rfl rfl ⟨by rw[uV bI h];rfl,iY Y⟩
 refine aL ?_;clear an Y;intro Y;have l:∀ x∈cl.map il.aO,0<=x:=fun x hx=>by
  rw[i]at hx;obtain⟨y,f,rfl⟩:=iQ.1 hx;exact Yp h (Ee I) L rfl y f
 have j':=KF I h;have K:sI (cl.map il.aO)=ml L:=by rw[i,QW]
 have g:(cl.map il.aO).length=cl.length:=iW _;have R:=(bm (s:=Q) Y).bT;refine W ?_;refine dN [7,7,9,9,22,30] (G:=Nat) (H:=Int) (fun k m=>[(22,E k),(7,E m)]) (fun k m w=>k<=cl.length/\m=sI ((cl.map il.aO).take k)/\M w0 w [X bW 361 Q cl]) (fun k _=>cl.length-k) 0 0 (fun _ _=>rfl) ⟨rfl,rfl,au⟩ ⟨br _,rfl,Y⟩ ?_;clear Y;rintro σ k m w ⟨hk,hm,Y⟩;refine aA ?_ ?_<;>intro h1
 ·have f:k<cl.length:=U
  have n:sI ((cl.map il.aO).take (k+1))=m+(az bW cl k).aO:=by
   rw[eD O.dflt (by rw[g];exact f),KE,<-hm,nr,al (by rw[g];exact f),mL,al f];show m+(_+0)=_;omega
  have N:=QV l (k+1);have P:=QV l k;rw[<-hm]at P;have q:=j _ (cD (d:=bW.dflt) f);rw[<-nr]at q;have S:(bW.enc (az bW cl k)).all Value.oneCell'=true:=by
   show ((az bW cl k).Z.oneCell' && ((Value.int .i64 (az bW cl k).aO).oneCell' && true))=true;rw[q];rfl
  rw[n]at N;refine c9 ?_;intro p w Y;exact⟨k+1,_,⟨rfl,rfl,au⟩,aV,⟨U,n.symm,Y.tail⟩,U⟩
 have f:k=cl.length:=U;rw[f,gH (by rw[g];exact cz _),K]at hm;refine W ?_;exact bk (v:=E m) rfl rfl ⟨by rw[uV bI h,hm];rfl,iY Y⟩
def KG {r c2 u y A:Value}{vars:J}{l:List bo}(F:dO w0 o [r,fv,c2,u,y,A])(K:RS O w0 fv (dE vars vars.length))(B:∀ x∈vars,1<=x)(q:∀ i,i<vars.length->vars.getD i O.dflt<=64)(j:vars.length<=64)(L:RS aq w0 lv l)(bI:∀ f∈l,bH vars f)(N:l.length<=64) :
  Calls aj 76 #[.pointer (some o),lv] w0 fun e w'=>∃ nv,e=.returned nv/\M w0 w' [X O 3 nv (l.map (dG vars))]:=by
 have C:=Ae vars vars.length;have Y:=M.start w0;refine bB ao Tryz.func76 ?_;replace Y:=Y.nil (T:=O) (e:=3);refine W ?_;refine dN [5,5,7,7,10,28] (G:=Nat) (H:=Value) (fun k g=>[(10,E k),(5,g)]) (fun k g w=>k<=l.length/\M w0 w [X O 3 g ((l.take k).map (dG vars))]) (fun k _=>l.length-k) 0 (nS) (fun _ _=>rfl) ⟨rfl,rfl,au⟩ ⟨br _,Y⟩ ?_;clear Y;rintro P k g w ⟨hk,Y⟩;have D:((l.take k).map (dG vars)).length=k:=by rw[iW,jf];omega
 refine aA ?_ ?_<;>intro h1
 ·have h:k<l.length:=U
  obtain⟨Q,R,S,V⟩:=bI _ (cD aq.dflt h);have hv:(l.getD k aq.dflt).var.toNat<vars.length:=U;obtain⟨g0,g1,g2⟩:=CJ B q j hv;have g3:=q _ hv;have m:(l.take (k+1)).map (dG vars)=(l.take k).map (dG vars)++[(dE vars vars.length).getD (l.getD k aq.dflt).var.toNat O.dflt+(l.getD k aq.dflt).val]:=by
   rw[eD aq.dflt h,pX,g0];rfl
  refine c9 ?_;intro p w Y;refine fQ (pl [0,1,2,3,4,5,6,7,8,9,10,11,12,13,14] []) Y kr ?_;clear Y;intro w Y
  repeat (first|refine dB ?_|(refine fR ?_;clear Y;intro s w Y))
  rw[<-m]at Y;obtain⟨n,rfl⟩:=À s;exact⟨k+1,n,⟨rfl,rfl,au⟩,aV,⟨U,Y.bb⟩,U⟩
 have h:k=l.length:=U;rw[h,gH (cz _)]at Y;refine W ?_;exact bk (v:=g) rfl rfl ⟨g,rfl,Y⟩
def su.fe {U':List Un}{v:wJ}{u:Un}(h:su us U' w)(j:us.length=U'.length)(hv:EQ w v u):su (us++[v]) (U'++[u]) w:=fun i f=>by
 by_cases e:i<U'.length
 ·rw[QX U,QY e];exact h i e
 have g:i=U'.length:=by rw[length_append,tr]at f;omega
 rw[QZ U,g,Q0];exact hv
def Ys {vars:J}{p q:List bo}:mB (dt (fk (p.map (dG vars)++q.map (dG vars)))) (cb vars q (cb vars p [])):=fun x=>by
 rw[Dd,Gi,gK,iQ,iQ,x8,x8];simp
def Yt (ht:bz w0 a b c d vs t)(I:aC t) :
  Calls aj 54 #[.agg #[a,b,c,d]] w0 fun e w'=>∃ p a2 fv gv cv lv us,e=.returned (.tuple #[.pointer (some p),.nilIface])/\M w0 w' [bj fun w=>uK w p t a2 fv gv cv lv us]:=by
 have j':=ht;obtain⟨ha,hb,hc,hd⟩:=ht;have _k:=hd.rs;have _l:=hd.len;have B:=I.vars;have _m:=I.Z;have _n:=sa I.aG;have hN:=Af I;have H':∀ f∈t.aG,bH t.vars f:=fun f P=>by
  obtain⟨i,q,e⟩:=fF P;have:=(I.aG i q).1;rw[al q,e]at this;exact this
 have y:=fun i q=>(I.nt i q).2;have Y:=M.start w0;refine bB ao Tryz.func54 ?_;refine c9 ?_;clear Y;intro C w Y;refine aU rfl (vY (j'.at Y)) ?_;rintro _ w' ⟨rfl,an⟩;refine aI ?_;clear an Y;intro Y;rw[gy ((rQ t).2 I)];refine W ?_;refine aU rfl (nH (ha.at Y) U) ?_;rintro _ w' ⟨a2,rfl,an⟩;refine aL ?_;clear an Y;intro Y;have oa:=(bm (s:=a2) Y).one;refine W ?_;refine sd (vs:=[(0,a2)]) (ls:=[(0,[a2])]) rfl (by show [(0,a2.cells.toList)]=_;rw[Bo oa]) rfl ?_;refine yj (vs:=[a2,nS,E 0,nS,nS,nS]) rfl Y ?_;clear Y;intro o w Y;replace Y:M w0 w [ak o 134 [a2,nS,E 0,nS,nS,nS],X O 3 a2 t.vars,ak C 26 [a,b,c,d]]:=Y;replace Y:=Y.nil (T:=O) (e:=3);refine W ?_;refine dN [7,7,26,51] (G:=Nat) (H:=Value) (fun k _=>[(26,E k)]) (fun k fv w=>k<=t.vars.length/\M w0 w [X O 3 fv (dE t.vars k),ak o 134 [a2,fv,E (bC t.vars k),nS,nS,nS],X O 3 a2 t.vars,ak C 26 [a,b,c,d]]) (fun k _=>t.vars.length-k) 0 (nS) (fun _ _=>rfl) ⟨rfl,au⟩ ⟨br _,Y⟩ ?_;clear Y;rintro σ k fv w ⟨hk,Y⟩;have J':=Ae t.vars k;refine aA ?_ ?_<;>intro h1
 ·have r:k<t.vars.length:=U
  have j:=I.nt k r;have l:=CK I.pos (b:=k) U;have m:=Ef (fun i q=>(I.nt i q).2) (b:=k) U;refine W ?_;refine fQ (pl [0,1,2,3,4,5,6,7,8,9] (.cJ 4::pl [10,11,12,13] [])) Y kr ?_;clear Y;intro w Y
  repeat (first|refine dB ?_|(refine tG ?_;clear Y;intro w Y)|(refine fR ?_;clear Y;intro s w Y))
  simp only[mM,mJ]at Y;rw[<-Q1,<-CL r]at Y;obtain⟨g,rfl⟩:=À s;exact⟨k+1,g,⟨rfl,au⟩,aV,⟨U,Y.tail⟩,U⟩
 have K:k=t.vars.length:=U;subst K;rw[<-tx I]at Y;refine W ?_;refine aU rfl (KG (pj (p:=o) Y) (bm (s:=fv) Y) I.pos y B (hc.at Y) H' U) ?_;rintro _ w' ⟨gv,rfl,an⟩;refine aL ?_;clear an Y;intro Y;have _o:=(bm (s:=gv) Y).one;refine iC ?_;clear Y;intro w Y;simp only[mM,mJ]at Y;have m:M w0 w (ak o 134 [a2,fv,E (aS t:Int),gv,(nS),(nS)]::X O 3 (nS) ((am t).take 0)::X jI 138 (nS) ([]:List wJ)::bj (su ([]:List wJ) (gL t 0))::X O 3 fv (dE t.vars t.vars.length)::X O 3 gv (dz t)::X O 3 a2 t.vars::[ak C 26 [a,b,c,d]]):=by
  have g1:M w0 w [X O 3 gv (dz t),X O 3 fv (dE t.vars t.vars.length),ak o 134 [a2,fv,E (aS t:Int),gv,nS,nS],X O 3 a2 t.vars,ak C 26 [a,b,c,d]]:=Y;have g2:=M.pN (φ:=su [] []) (fun w i q=>absurd q (dx _)) ((g1.nil (T:=O) (e:=3)).nil (T:=jI) (e:=138));have j:gL t 0=[]:=by simp[gL]
  rw[j,wI];exact g2.cq
 clear Y;have Y:=m;clear m;refine cN [8,9,11,12,62,121] (G:=Nat) (fun k=>[(62,E k)]) (fun k w=>k<=t.Z.length/\∃ cv lv us,us.length=(gL t k).length/\M w0 w (ak o 134 [a2,fv,E (aS t:Int),gv,cv,lv]::X O 3 cv ((am t).take k)::X jI 138 lv us::bj (su us (gL t k))::X O 3 fv (dE t.vars t.vars.length)::X O 3 gv (dz t)::X O 3 a2 t.vars::[ak C 26 [a,b,c,d]])) (fun k=>t.Z.length-k) 0 (fun _=>rfl) ⟨rfl,au⟩ ⟨br _,_,_,_,rfl,Y⟩ ?_;clear Y;rintro _p k w ⟨hk,cv,lv,us,g,Y⟩;refine aA ?_ ?_<;>intro h2
 ·have r:k<t.Z.length:=U
  have D:=hd.dK k r;have _f:=D.one;have Q:=D.pre;have hgo:=I.op k r;have _q:=sa hgo.pre;have _r:=hgo.aJ;have P':=D.aO;obtain⟨es,L⟩:=D.aJ;have _g:=L.rs;have _h:=L.len;have _s:(am t).length=t.Z.length:=tB t;have _i:((am t).take k).length=k:=by rw[jf];omega
  have R:(am t).take (k+1)=(am t).take k++[(az cp vs k).aO]:=by rw[eD O.dflt U,tC r,P']
  refine c9 ?_;clear Y;intro p9 w Y;refine fQ (pl [0,1,2,3,4,5,6,7] (.cJ 4::pl [8,9,10,11] [])) Y kr ?_;clear Y;intro w Y
  repeat (first|refine dB ?_|(refine tG ?_;clear Y;intro w Y)|(refine fR ?_;clear Y;intro s w Y))
  simp only[mM,mJ]at Y;rw[<-R]at Y;obtain⟨l,rfl⟩:=À s;have m:M w0 w (ak o 134 [a2,fv,E (aS t:Int),gv,l,lv]::X O 3 l ((am t).take (k+1))::X jI 138 lv us::bj (su us (gL t k++lP t.vars k (t.Z.getD k bf) 0))::ak p9 44 (cp.enc (az cp vs k))::X O 3 fv (dE t.vars t.vars.length)::X O 3 gv (dz t)::X O 3 a2 t.vars::[ak C 26 [a,b,c,d]]):=by
   have j:lP t.vars k (t.Z.getD k bf) 0=[]:=rfl;rw[j,fI];exact Y.cq
  clear Y;have Y:=m;clear m;refine W ?_;refine cN [11,12,81,120] (G:=Nat) (fun j=>[(81,E j)]) (fun j w=>j<=(t.Z.getD k bf).aJ.length/\∃ lv us,us.length=(gL t k++lP t.vars k (t.Z.getD k bf) j).length/\M w0 w (ak o 134 [a2,fv,E (aS t:Int),gv,l,lv]::X O 3 l ((am t).take (k+1))::X jI 138 lv us::bj (su us (gL t k++lP t.vars k (t.Z.getD k bf) j))::ak p9 44 (cp.enc (az cp vs k))::X O 3 fv (dE t.vars t.vars.length)::X O 3 gv (dz t)::X O 3 a2 t.vars::[ak C 26 [a,b,c,d]])) (fun j=>(t.Z.getD k bf).aJ.length-j) 0 (fun _=>rfl) ⟨rfl,au⟩ ⟨br _,_,_,by rw[show lP t.vars k (t.Z.getD k bf) 0=[] from rfl,fI];exact g,Y⟩ ?_;clear Y g lv us;rintro _t j w ⟨hj,lv,us,g,Y⟩;refine aA ?_ ?_<;>intro h3
  ·have S:j<(t.Z.getD k bf).aJ.length:=U
   have u:=L.dK j S;have A:=hgo.fc j S;have _j:=u.one;have R':=u.bK;have T':∀ f∈(t.Z.getD k bf).pre,bH t.vars f:=fun f P=>by
    obtain⟨i,q,rfl⟩:=fF P;have:=(hgo.pre i q).1
    rwa[al q]at this
   have V':∀ f∈((t.Z.getD k bf).aJ.getD j bE).bK,bH t.vars f:=fun f P=>by
    obtain⟨i,q,rfl⟩:=fF P;have:=(A.1 i q).1
    rwa[al q]at this
   have _u:=sa A.1;refine c9 ?_;clear Y;intro _a w Y;refine fQ (pl [0,1,2,4,5,6,3] (.cJ 6::pl [7,8,9] [])) Y kr ?_;clear Y;intro w Y;refine W ?_;refine aU rfl (KG (pj (p:=o) Y) (bm (s:=fv) Y) I.pos y B (Q.at Y) T' U) ?_;rintro _ w' ⟨n1,rfl,an⟩;refine aL ?_;clear an Y;intro Y;refine W ?_;refine aU rfl (KG (pj (p:=o) Y) (bm (s:=fv) Y) I.pos y B (R'.at Y) V' U) ?_;rintro _ w' ⟨n2,rfl,an⟩;refine aL ?_;clear an Y;intro Y;have _v:((t.Z.getD k bf).pre.map (dG t.vars)).length=(t.Z.getD k bf).pre.length:=iW _;have _w:(((t.Z.getD k bf).aJ.getD j bE).bK.map (dG t.vars)).length=((t.Z.getD k bf).aJ.getD j bE).bK.length:=iW _;refine ot ?_;clear Y;intro s w Y;obtain⟨nd,rfl⟩:=À s;have m:M w0 w (X O 3 nd ((t.Z.getD k bf).pre.map (dG t.vars)++((t.Z.getD k bf).aJ.getD j bE).bK.map (dG t.vars))::ak _a 61 (aY.enc (az aY es j))::ak p9 44 (cp.enc (az cp vs k))::ak o 134 [a2,fv,E (aS t:Int),gv,l,lv]::X O 3 l ((am t).take (k+1))::X jI 138 lv us::bj (su us (gL t k++lP t.vars k (t.Z.getD k bf) j))::X O 3 fv (dE t.vars t.vars.length)::X O 3 gv (dz t)::X O 3 a2 t.vars::[ak C 26 [a,b,c,d]]):=Y.cq;have _x:((t.Z.getD k bf).pre.map (dG t.vars)++((t.Z.getD k bf).aJ.getD j bE).bK.map (dG t.vars)).length<=128:=by rw[length_append];omega
   refine aU rfl (Dm (s:=nd) m U) ?_;clear Y m;rintro _ w ⟨rfl,Y⟩;refine⟨_,rfl,?_⟩;have _b:bH t.vars ⟨(az aY es j).var,(az aY es j).val⟩:=by rw[u.var,u.val];exact tz A
   obtain⟨x0,x1,x2,x3⟩:=_b;have y0:0<=(az aY es j).var:=x0;have y1:(az aY es j).var<t.vars.length:=x1;have y2:0<=(az aY es j).val:=x2;have y3:(az aY es j).val<t.vars.getD (az aY es j).var.toNat O.dflt:=x3;clear x0 x1 x2 x3;have hv:(az aY es j).var.toNat<t.vars.length:=U;obtain⟨g0,g1,g2⟩:=CJ I.pos y B hv;have g3:=y _ hv;rw[<-g0]at g1 g2;have J':=Ae t.vars t.vars.length;have _y:us.length<=1048576:=by
    have n:=Bp I (k:=k) U;rw[g,length_append,Bq];omega
   refine W ?_;refine fQ (pl [0,1,2,3,4,5,6,7,8,9,10,11,12,13,14,15,16,17,18] (.cJ 4::.cJ 9::.cJ 11::.cJ 13::.cJ 15::pl [19] (.cJ 4::pl [20] (.cJ 4::pl [21,22,23,24] [])))) Y kr ?_;clear Y;intro w Y;refine W ?_;refine aU rfl (Gj (s:=nd) Y (by rw[Dz];omega)) ?_;clear Y;rintro _ w ⟨n,rfl,Y⟩;refine⟨_,rfl,?_⟩;have V:=(bm (s:=n) Y).one;refine W ?_;have _c:(dE t.vars t.vars.length).getD (az aY es j).var.toNat O.dflt+(az aY es j).val=dG t.vars ⟨((t.Z.getD k bf).aJ.getD j bE).var,((t.Z.getD k bf).aJ.getD j bE).val⟩:=by
    rw[g0,u.var,u.val];rfl
   rw[_c];obtain⟨mk,F⟩:=À (dG t.vars ⟨((t.Z.getD k bf).aJ.getD j bE).var,((t.Z.getD k bf).aJ.getD j bE).val⟩);rw[<-F];refine yq (v1:=E (k:Int)) (v2:=E mk) (v3:=n) rfl rfl rfl rfl (by simp only[ew,eN,V];rfl) ?_;refine W ?_;refine jG jI (x1:=⟨k,mk,n⟩) rfl rfl rfl (fX rfl) (fb _) Y ?_;clear Y;intro sl w Y;refine W ?_;refine rV (s:=lv) (s2:=sl) inferInstance rfl rfl (bm Y) rfl rfl (fun x hx v hv=>?_) (by simp only[length_cons,length_nil];omega) (by unfold bT;simp only[length_cons,length_nil];omega) Y ?_
   ·rw[dp.1 hx]at hv
    simp only[jI,dZ,fM,pL]at hv;rcases hv with rfl|rfl|rfl
    ·rfl
    ·rfl
    exact V
   clear Y;intro N w Y;refine iC ?_;clear Y;intro w Y;simp only[mM,mJ]at Y;have _d:M w0 w (X O 3 n (dt (fk ((t.Z.getD k bf).pre.map (dG t.vars)++((t.Z.getD k bf).aJ.getD j bE).bK.map (dG t.vars))))::bj (su us (gL t k++lP t.vars k (t.Z.getD k bf) j))::ak o 134 [a2,fv,E (aS t:Int),gv,l,N]::X O 3 l ((am t).take (k+1))::X jI 138 N (us++[⟨k,mk,n⟩])::ak p9 44 (cp.enc (az cp vs k))::X O 3 fv (dE t.vars t.vars.length)::X O 3 gv (dz t)::X O 3 a2 t.vars::[ak C 26 [a,b,c,d]]):=Y.cq
   have _e:=M.rd (Δ:=[X O 3 n (dt (fk ((t.Z.getD k bf).pre.map (dG t.vars)++((t.Z.getD k bf).aJ.getD j bE).bK.map (dG t.vars)))),bj (su us (gL t k++lP t.vars k (t.Z.getD k bf) j))]) (φ:=su (us++[⟨k,mk,n⟩]) (gL t k++lP t.vars k (t.Z.getD k bf) (j+1))) (fun _ w h=>by
    rw[KH,<-fG]
    exact(h.cU 1 rfl).fe g ⟨rfl,F,_,h.rs 0 rfl,Ys⟩) _d
   exact⟨j+1,⟨rfl,au⟩,aV,⟨U,N,us++[⟨k,mk,n⟩],by rw[KH,<-fG,length_append,length_append,g];rfl,_e.cq⟩,U⟩
  have n:j=(t.Z.getD k bf).aJ.length:=U;subst n;rw[<-yL]at Y g;refine W ?_;exact⟨k+1,⟨rfl,au⟩,aV,⟨U,l,lv,us,g,Y.cq⟩,U⟩
 have K:k=t.Z.length:=U;subst K;rw[gH (by rw[tB];exact cz _)]at Y;refine W ?_;have j:=M.rd (Δ:=[ak o 134 [a2,fv,E (aS t:Int),gv,cv,lv],X O 3 cv (am t),X jI 138 lv us,bj (su us (bS t)),X O 3 fv (dE t.vars t.vars.length),X O 3 gv (dz t),X O 3 a2 t.vars]) (φ:=fun w=>uK w o t a2 fv gv cv lv us) (fun _ w h=>⟨h.gB 0 rfl,h.rs 6 rfl,h.rs 4 rfl,h.rs 5 rfl,h.rs 1 rfl,h.rs 2 rfl,g,h.cU 3 rfl⟩) Y;exact cX (v:=.pointer (some o)) (v':=.nilIface) rfl rfl rfl ⟨o,a2,fv,gv,cv,lv,us,rfl,j.bb⟩
def uK.at {w0 w:World}{Γ:List HP}{o:Addr}{t:aa}{a fv gv cv lv:Value}{us:List wJ}(h:uK w0 o t a fv gv cv lv us)(Y:M w0 w Γ):uK w o t a fv gv cv lv us :=
 ⟨h.box.at Y,h.vars.at Y,h.fst.at Y,h.aG.at Y,h.aT.at Y,h.BH.at Y,h.len,h.un.at Y⟩
def Yu {gv cv:Value}(h:uK w o t a fv gv cv lv us)(I:aC t):gb w (.iface 98 (.pointer (some o))) t (pR t) :=
 ⟨_,_,_,_,rfl,Hv _,inferInstance,fun _ _ _ _ f e bI=>Yq (h.at f) I e bI⟩
def Yv (j:bz w0 a b c d vs t)(I:aC t) :
  Calls aj 28 #[.agg #[a,b,c,d]] w0 fun e w'=>∃ p,e=.returned (.tuple #[.pointer (some p),.nilIface])/\M w0 w' [bj fun w=>cy w p t (pR t)]:=by
 have Y:=M.start w0;refine bB ao Tryz.func28 ?_;refine c9 ?_;intro l w Y;refine aU rfl (Yt (j.at Y) I) ?_;rintro _ w' ⟨o,a2,fv,gv,k,lv,us,rfl,an⟩;refine aL ?_;clear an Y;intro Y;refine W ?_;refine aU rfl (yf (h:=.iface 98 (.pointer (some o))) (H:=pR t) (j.at Y) I ⟨_,_,rfl⟩) ?_;rintro _ w' ⟨f,rfl,an⟩;refine aL ?_;clear an Y;intro Y;refine W ?_;have g:M w0 w' [bj fun w=>gb w (.iface 98 (.pointer (some o))) t (pR t)->cy w f t (pR t),bj fun w=>uK w o t a2 fv gv k lv us,ak l 26 [a,b,c,d]]:=Y;have i:=M.rd (Δ:=[bj fun w=>gb w (.iface 98 (.pointer (some o))) t (pR t)->cy w f t (pR t),bj fun w=>uK w o t a2 fv gv k lv us]) (φ:=fun w=>cy w f t (pR t)) (fun _ w h=>(h.cU 0 rfl) (Yu (h.cU 1 rfl) I)) g;exact cX (v:=.pointer (some f)) (v':=.nilIface) rfl rfl rfl ⟨f,rfl,i.bb⟩
structure oK (w:World) (o:Addr) (t:aa):Prop where
 ex:∃ a c fv uv nv frv us ss,dO w o [a,nS,c,nS,fv,E (aS t:Int),uv,nv,frv]/\RS O w a t.vars/\RS aq w c t.aG/\RS O w fv (dE t.vars t.vars.length)/\RS kY w uv us/\us.length=(bS t).length/\nI us (bS t) w/\RS ar w nv ss/\ss.length=aS t/\(∀ f,f<aS t->RS O w (cF ss f) (eh (bS t) f))/\RS O w frv (dS (bS t))
def Yw (ht:bz w0 a b c d vs t)(I:aC t) :
  Calls aj 53 #[.agg #[a,b,c,d],nS] w0 fun e w'=>∃ p,e=.returned (.tuple #[.pointer (some p),.nilIface])/\M w0 w' [bj fun w=>oK w p t]:=by
 have J':=ht;obtain⟨ha,hb,hc,hd⟩:=ht;have _l:=hd.rs;have _m:=hd.len;have Q:=I.vars;have _n:=I.Z;have _o:=sa I.aG;have Y:=M.start w0;refine bB ao Tryz.func53 ?_;refine c9 ?_;clear Y;intro A w Y;refine aU rfl (vY (J'.at Y)) ?_;rintro _ w' ⟨rfl,an⟩;refine aI ?_;clear an Y;intro Y;rw[gy ((rQ t).2 I)];replace Y:=Y.nil (T:=O) (e:=3);have hz:(([]:J).length:Int)=0:=rfl;refine W ?_;refine cN [4,5,8,8,36,47] (G:=Unit) (fun _=>[(36,E 0)]) (fun _ w=>M w0 w [X O 3 (nS) [],ak A 26 [a,b,c,d]]) (fun _=>0) () (fun _=>rfl) ⟨rfl,au⟩ Y ?_;clear Y;rintro σ _ w Y;refine W ?_;replace Y:=Y.tail;refine fQ (pl [0,1,3,4,2] (.cJ 4::pl [5,6,7,8,9] [])) Y kr ?_;clear Y;intro w Y;refine W ?_;refine aU rfl (nH (ha.at Y) U) ?_;rintro _ w' ⟨a2,rfl,an⟩;refine aL ?_;clear an Y;intro Y;refine W ?_;refine aU rfl (Dp (hc.at Y) U) ?_;rintro _ w' ⟨c2,rfl,an⟩;refine aL ?_;clear an Y;intro Y;refine W ?_;have oa:=(bm (s:=a2) Y).one;have oc:=(bm (s:=c2) Y).one;refine zA (v1:=a2) (v2:=c2) rfl rfl rfl (by simp only[ew,eN,oa,oc];rfl) ?_;refine W ?_;refine sd (vs:=[(0,.agg #[a2,nS,c2,nS])]) (ls:=[(0,[a2,nS,c2,nS])]) rfl rfl rfl ?_;refine c9 ?_;clear Y;intro o w Y;replace Y:M w0 w [ak o 127 [a2,nS,c2,nS,nS,E 0,nS,nS,nS],X aq 63 c2 t.aG,X O 3 a2 t.vars,ak A 26 [a,b,c,d]]:=Y;replace Y:=Y.nil (T:=O) (e:=3);refine dN [11,11,60,85] (G:=Nat) (H:=Value) (fun k _=>[(60,E k)]) (fun k fv w=>k<=t.vars.length/\M w0 w [X O 3 fv (dE t.vars k),ak o 127 [a2,nS,c2,nS,fv,E (bC t.vars k),nS,nS,nS],X aq 63 c2 t.aG,X O 3 a2 t.vars,ak A 26 [a,b,c,d]]) (fun k _=>t.vars.length-k) 0 (nS) (fun _ _=>rfl) ⟨rfl,au⟩ ⟨br _,Y⟩ ?_
 clear Y;rintro σ k fv w ⟨hk,Y⟩;have _p:=Ae t.vars k;refine aA ?_ ?_<;>intro h1
 ·have y:k<t.vars.length:=U
  have g:=I.nt k y;have j:=CK I.pos (b:=k) U;have l:=Ef (fun i u=>(I.nt i u).2) (b:=k) U;refine W ?_;refine fQ (pl [0,1,2,3,4,5,6,7,8,9] (.cJ 4::pl [10,11,12,13] [])) Y kr ?_;clear Y;intro w Y
  repeat (first|refine dB ?_|(refine tG ?_;clear Y;intro w Y)|(refine fR ?_;clear Y;intro s w Y))
  rw[<-Q1,<-CL y]at Y;exact⟨k+1,s,⟨rfl,au⟩,aV,⟨U,Y.tail⟩,U⟩
 have D:k=t.vars.length:=U;subst D;rw[<-tx I]at Y;have hN:=Af I;refine ot ?_;clear Y;intro s w Y;obtain⟨q,rfl⟩:=À s;have m:M w0 w (ai O 3 (replicate (aS t) (nS)) (gg (gL t 0) (aS t))::X ar 22 q (replicate (aS t) (nS))::ak o 127 [a2,nS,c2,nS,fv,E (aS t:Int),(nS),q,(nS)]::X O 3 fv (dE t.vars t.vars.length)::X kY 131 (nS) ([]:List x9)::bj (nI ([]:List x9) (gL t 0))::X O 3 (nS) (dS (gL t 0))::X O 3 (nS) []::X aq 63 c2 t.aG::X O 3 a2 t.vars::[ak A 26 [a,b,c,d]]):=by
  rw[gY]at Y;have g1:M w0 w [X ar 22 q (replicate (aS t) (nS)),X O 3 fv (dE t.vars t.vars.length),ak o 127 [a2,nS,c2,nS,fv,E (aS t:Int),nS,q,nS],X aq 63 c2 t.aG,X O 3 a2 t.vars,ak A 26 [a,b,c,d]]:=Y;have g2:=M.pN (φ:=nI [] []) (fun w i u=>absurd u (dx _)) ((((g1.nil (T:=O) (e:=3)).nil (T:=O) (e:=3)).nil (T:=kY) (e:=131)).gJ (T:=O) (e:=3) (aS t));have j:gL t 0=[]:=by simp[gL]
  rw[<-Yx]at g2;rw[j,Yy];exact g2.cq
 clear Y;have Y:=m;clear m;refine cN [12,16,97,137] (G:=Nat) (fun k=>[(97,E k)]) (fun k w=>k<=t.Z.length/\∃ n g us l,us.length=(gL t k).length/\M w0 w (ai O 3 l (gg (gL t k) (aS t))::X ar 22 q l::ak o 127 [a2,nS,c2,nS,fv,E (aS t:Int),n,q,g]::X O 3 fv (dE t.vars t.vars.length)::X kY 131 n us::bj (nI us (gL t k))::X O 3 g (dS (gL t k))::X O 3 (nS) []::X aq 63 c2 t.aG::X O 3 a2 t.vars::[ak A 26 [a,b,c,d]])) (fun k=>t.Z.length-k) 0 (fun _=>rfl) ⟨rfl,au⟩ ⟨br _,_,_,_,_,rfl,Y⟩ ?_;clear Y;rintro _q k w ⟨hk,n,g,us,l,r,Y⟩;refine aA ?_ ?_<;>intro h2
 ·have y:k<t.Z.length:=U
  have B:=hd.dK k y;have _h:=B.one;have R:=B.pre;have hgo:=I.op k y;have _r:=sa hgo.pre;have _s:=hgo.aJ;obtain⟨es,F⟩:=B.aJ;have _i:=F.rs;have _j:=F.len;refine c9 ?_;clear Y;intro K w Y;have m:M w0 w (ai O 3 l (gg (gL t k++lP t.vars k (t.Z.getD k bf) 0) (aS t))::X ar 22 q l::ak o 127 [a2,nS,c2,nS,fv,E (aS t:Int),n,q,g]::X O 3 fv (dE t.vars t.vars.length)::X kY 131 n us::bj (nI us (gL t k++lP t.vars k (t.Z.getD k bf) 0))::X O 3 g (dS (gL t k++lP t.vars k (t.Z.getD k bf) 0))::ak K 44 (cp.enc (az cp vs k))::X O 3 (nS) []::X aq 63 c2 t.aG::X O 3 a2 t.vars::[ak A 26 [a,b,c,d]]):=by
   have j:lP t.vars k (t.Z.getD k bf) 0=[]:=rfl;rw[j,fI];exact Y.cq
  clear Y;have Y:=m;clear m;refine cN [15,16,114,136] (G:=Nat) (fun j=>[(114,E j)]) (fun j w=>j<=(t.Z.getD k bf).aJ.length/\∃ n g us l,us.length=(gL t k++lP t.vars k (t.Z.getD k bf) j).length/\M w0 w (ai O 3 l (gg (gL t k++lP t.vars k (t.Z.getD k bf) j) (aS t))::X ar 22 q l::ak o 127 [a2,nS,c2,nS,fv,E (aS t:Int),n,q,g]::X O 3 fv (dE t.vars t.vars.length)::X kY 131 n us::bj (nI us (gL t k++lP t.vars k (t.Z.getD k bf) j))::X O 3 g (dS (gL t k++lP t.vars k (t.Z.getD k bf) j))::ak K 44 (cp.enc (az cp vs k))::X O 3 (nS) []::X aq 63 c2 t.aG::X O 3 a2 t.vars::[ak A 26 [a,b,c,d]])) (fun j=>(t.Z.getD k bf).aJ.length-j) 0 (fun _=>rfl) ⟨rfl,au⟩ ⟨br _,_,_,_,_,by rw[show lP t.vars k (t.Z.getD k bf) 0=[] from rfl,fI];exact r,Y⟩ ?_;clear Y r n g us l;rintro _t j w ⟨hj,n,g,us,l,r,Y⟩;refine aA ?_ ?_<;>intro h3
  ·have S:j<(t.Z.getD k bf).aJ.length:=U
   have x:=F.dK j S;have L:=hgo.fc j S;have _k:=x.one;have P':=x.bK;refine c9 ?_;clear Y;intro R' w Y;refine fQ (pl [0,1,2,3,4,5,6,7,8,12,13,14,15,9] (.cJ 13::.cJ 15::pl [10] (.cJ 13::.cJ 15::pl [11] (.cJ 13::.cJ 15::pl [16] [])))) Y kr ?_;clear Y;intro w Y;refine W ?_;have T':bH t.vars ⟨(az aY es j).var,(az aY es j).val⟩:=by rw[x.var,x.val];exact tz L
   refine aU rfl (KJ (f:=⟨(az aY es j).var,(az aY es j).val⟩) (pj (p:=o) Y) (bm (s:=fv) Y) I.pos (fun i u=>(I.nt i u).2) Q T') ?_;rintro _ w' ⟨rfl,an⟩;refine aI ?_;clear an Y;intro Y;refine W ?_;refine XH (v1:=E (k:Int)) (v2:=E (j:Int)) (v3:=E (az cp vs k).aO) (v4:=E (dG t.vars ⟨(az aY es j).var,(az aY es j).val⟩)) rfl rfl rfl rfl rfl rfl ?_;refine W ?_;have V':RS aq w0 (az cp vs k).pre (t.Z.getD k bf).pre:=R;have _a:∀ f∈(t.Z.getD k bf).pre,bH t.vars f:=fun f P=>by
    obtain⟨i,u,rfl⟩:=fF P;have:=(hgo.pre i u).1
    rwa[al u]at this
   have _b:∀ f∈((t.Z.getD k bf).aJ.getD j bE).bK,bH t.vars f:=fun f P=>by
    obtain⟨i,u,rfl⟩:=fF P;have:=(L.1 i u).1
    rwa[al u]at this
   have _u:=sa L.1;have _c:(gL t k++lP t.vars k (t.Z.getD k bf) j).length<=1048576:=by
    have C:=Bp I (k:=k) U;rw[length_append,Bq];omega
   have m:M w0 w' (ai O 3 l (gg (gL t k++lP t.vars k (t.Z.getD k bf) j) (aS t))::X ar 22 q l::ak o 127 [a2,nS,c2,nS,fv,E (aS t:Int),n,q,g]::X O 3 fv (dE t.vars t.vars.length)::X kY 131 n us::bj (nI us (gL t k++lP t.vars k (t.Z.getD k bf) j))::X O 3 g (dS (gL t k++lP t.vars k (t.Z.getD k bf) j))::ak R' 61 (aY.enc (az aY es j))::ak K 44 (cp.enc (az cp vs k))::X O 3 (nS) []::X aq 63 c2 t.aG::X O 3 a2 t.vars::[ak A 26 [a,b,c,d]]):=Y.cq;refine aU rfl (Yz (l1:=(t.Z.getD k bf).pre) (l2:=((t.Z.getD k bf).aJ.getD j bE).bK) (vars:=t.vars) (N:=aS t) I.pos (fun i u=>(I.nt i u).2) Q (tx I) hN _c V' P' _a _b U U r m) ?_;clear Y m;rintro _ w ⟨rfl,_d,V,_e,_f,C,Y⟩;refine⟨_,rfl,?_⟩;have j':=x.var;have H':=x.val;have _g:=B.aO;rw[j',H',_g,fG,show Un.mk (k:Int) (j:Int) (t.Z.getD k bf).aO (dG t.vars ⟨((t.Z.getD k bf).aJ.getD j bE).var,((t.Z.getD k bf).aJ.getD j bE).val⟩) (cb t.vars ((t.Z.getD k bf).aJ.getD j bE).bK (cb t.vars (t.Z.getD k bf).pre []))=yM t.vars k (t.Z.getD k bf) j from rfl,<-KH]at Y C;refine W ?_;exact⟨j+1,⟨rfl,au⟩,aV,⟨U,_d,V,_e,_f,C,Y.cq⟩,U⟩
  have u:j=(t.Z.getD k bf).aJ.length:=U;subst u;rw[<-yL]at Y r;refine W ?_;exact⟨k+1,⟨rfl,au⟩,aV,⟨U,n,g,us,l,r,Y.cq⟩,U⟩
 have D:k=t.Z.length:=U;subst D;have j:l.length=aS t:=by rw[Y.bP,KK]
 refine W ?_
 have u:=M.rd (Δ:=[ai O 3 l (gg (gL t t.Z.length) (aS t)),X ar 22 q l,ak o 127 [a2,nS,c2,nS,fv,E (aS t:Int),n,q,g],X O 3 fv (dE t.vars t.vars.length),X kY 131 n us,bj (nI us (gL t t.Z.length)),X O 3 g (dS (gL t t.Z.length)),X O 3 (nS) [],X aq 63 c2 t.aG,X O 3 a2 t.vars]) (φ:=fun w=>oK w o t) (fun _ w h=>by
  refine⟨a2,c2,fv,n,q,g,us,l,h.gB 2 rfl,h.rs 9 rfl,h.rs 8 rfl,h.rs 3 rfl,h.rs 4 rfl,r,h.cU 5 rfl,h.rs 1 rfl,j,fun f P=>?_,h.rs 6 rfl⟩;have h3:M _ w [ai O 3 l (gg (gL t t.Z.length) (aS t))]:=h.bb;have x:=h3.row (i:=f) (by rw[KK];exact P);rw[YA P]at x
  exact x) Y
 exact cX (v:=.pointer (some o)) (v':=.nilIface) rfl rfl rfl ⟨o,rfl,u.bb⟩
end Go.Proofs.YtmapkjoefdgjfaaGreatDoor
