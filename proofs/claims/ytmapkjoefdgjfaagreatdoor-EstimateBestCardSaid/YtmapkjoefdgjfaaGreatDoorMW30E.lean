/- Several texts. -/
import Derived.Test.YtmapkjoefdgjfaaGreatDoorMW29E
set_option linter.unusedSimpArgs false
set_option linter.unusedVariables false
set_option linter.defProp false
set_option maxRecDepth 8000
set_option maxHeartbeats 16000000
open List Nat
namespace Go.Proofs.YtmapkjoefdgjfaaGreatDoor
open Go.Sl Go
variable {a b c d fv lv:Value}{t:aa}{w0 w:World}{vs:List iW}{z:J}{o:Addr}{us:List wL}
attribute [local irreducible] vc opsW opsD opV opW PureV ReadV Thn Blk
instance Np:nB ai 102 "Value" 273 := ⟨kr⟩
def YT {sv:Value}{kind:Int}(hO:kind=3->wW)(f:1<=kind)(g:kind<=3)(i:bn w0 a b c d vs t)(I:aG t)(j:RS W w0 sv z)(bL:ab t.vars z) :
  Calls ai 273 #[.agg #[a,b,c,d,E kind],sv] w0 fun e w'=>e=.returned (E (jP t kind z))/\Z w0 w' []:=by
 have Y:=Z.start w0;obtain⟨V,h⟩:=À (rh t z kind);have hH:jP t kind z=if V.1=0 then V.2 else 0:=by rw[h];rfl
 rw[hH];refine bA an Tryz.func273 ?_;refine eE ?_;intro p w Y;refine qX rfl (ym (k:=0) (n:=4) (vs:=[a,b,c,d]) rfl (Y.gn 0 rfl) rfl rfl) ?_;refine O ?_;refine aL rfl (YU hO f g (i.at Y) I (j.at Y) bL) ?_;refine gZ ?_;clear Y;intro w' Y;rw[<-h];by_cases he:V.1=0
 ·rw[aM he,fK he]
  refine O ?_;exact bf (v:=E V.2) rfl rfl ⟨rfl,gm Y⟩
 rw[aC he,cS he];refine O ?_;exact bf (v:=E 0) rfl rfl ⟨rfl,gm Y⟩
def YV {kind:Int}(hO:kind=3->wW)(e:1<=kind)(f:kind<=3)(h:bn w a b c d vs t)(I:aG t):fB w (.iface 102 (.agg #[a,b,c,d,E kind])) t (jP t kind) :=
 ⟨_,_,_,_,rfl,Dl _,inferInstance,fun _ _ _ _ i g bL=>YT hO e f (h.at i) I g bL⟩
def Rf {h:Value}{k:Int}(f:∃ T v,h=.iface T v) :
  Calls ai 37 #[.agg #[a,b,c,d],h,.iface 57 (E k)] w0 fun e w'=>e=.returned (.tuple #[.pointer none,.iface 57 (E k)])/\Z w0 w' []:=by
 obtain⟨T,v,rfl⟩:=f;have Y:=Z.start w0;refine bA an Tryz.func37 ?_;refine eE ?_;intro p w Y;exact cR (v:=.pointer none) (v':=.iface 57 (E k)) rfl rfl rfl ⟨rfl,gm Y⟩
def YW {kind:Int}(hO:kind=3->wW)(l:bn w0 a b c d vs t)(I:aG t) :
  Calls ai 29 #[.agg #[a,b,c,d],E kind] w0 fun e w'=>((kind<1\/3<kind)/\e=.returned (.tuple #[.pointer none,bI 1])/\Z w0 w' [])\/∃ p,(1<=kind/\kind<=3)/\e=.returned (.tuple #[.pointer (some p),.nilIface])/\Z w0 w' [aZ fun w=>bK w p t (jP t kind)]:=by
 have Y:=Z.start w0;refine bA an Tryz.func29 ?_;refine eE ?_;intro p w Y;obtain⟨y,rfl⟩:=À p;refine aL rfl (tC (l.at Y)) ?_;refine gZ ?_;clear Y;intro w' Y;rw[fK ((oz t).2 I)];by_cases q:kind<1\/3<kind
 ·by_cases m:kind<1
  ·have g:decide (kind<1)=true:=dy m
   refine O ?_
   try simp only[g];refine tG ?_
   refine O ?_;refine fz (pl [0,1,2] (.cI 0::pl [3,4] (.cI 0::pl [5,6,7,8,9,10,11] []))) Y kr ?_;clear Y;intro w Y;refine O ?_;refine aL rfl (Dm (l.at Y) I) ?_;rintro _ w' ⟨a2,f,c2,d2,i,rfl,al⟩;refine aI ?_;clear al Y;intro Y;refine O ?_;refine rW (vs:=[(0,.agg #[a2,f,c2,d2]),(1,E kind)]) (ls:=[(0,[a2,f,c2,d2]),(1,[E kind])]) rfl rfl rfl ?_;refine O ?_;refine aL rfl (Rf (h:=.iface 102 (.agg #[a2,f,c2,d2,E kind])) (k:=1) ⟨_,_,rfl⟩) ?_;refine jT ?_;intro w' Y;exact cR (v:=.pointer none) (v':=.iface 57 (E 1)) rfl rfl rfl (.inl ⟨q,by rw[cS dc],gm Y⟩)
  have g:decide (kind<1)=false:=dU m;have j:decide (3<kind)=true:=dy U;refine O ?_
  try simp only[g,j];refine tG ?_
  refine O ?_;refine fz (pl [0,1,2] (.cI 0::pl [3,4] (.cI 0::pl [5,6,7,8,9,10,11] []))) Y kr ?_;clear Y;intro w Y;refine O ?_;refine aL rfl (Dm (l.at Y) I) ?_;rintro _ w' ⟨a2,f,c2,d2,i,rfl,al⟩;refine aI ?_;clear al Y;intro Y;refine O ?_;refine rW (vs:=[(0,.agg #[a2,f,c2,d2]),(1,E kind)]) (ls:=[(0,[a2,f,c2,d2]),(1,[E kind])]) rfl rfl rfl ?_;refine O ?_;refine aL rfl (Rf (h:=.iface 102 (.agg #[a2,f,c2,d2,E kind])) (k:=1) ⟨_,_,rfl⟩) ?_;refine jT ?_;intro w' Y;exact cR (v:=.pointer none) (v':=.iface 57 (E 1)) rfl rfl rfl (.inl ⟨q,by rw[cS dc],gm Y⟩)
 have g:decide (kind<1)=false:=dU U;have j:decide (3<kind)=false:=dU U;have m:1<=kind:=U;have n:kind<=3:=U;refine O ?_
 try simp only[g,j];refine tG ?_
 refine O ?_;refine fz (pl [0,1,2] (.cI 0::pl [3,4] (.cI 0::pl [5,6,7,8,9,10,11] []))) Y kr ?_;clear Y;intro w Y;refine O ?_;refine aL rfl (Dm (l.at Y) I) ?_;rintro _ w' ⟨a2,f,c2,d2,i,rfl,al⟩;refine aI ?_;clear al Y;intro Y;refine O ?_;refine rW (vs:=[(0,.agg #[a2,f,c2,d2]),(1,E kind)]) (ls:=[(0,[a2,f,c2,d2]),(1,[E kind])]) rfl rfl rfl ?_;refine O ?_;refine aL rfl (xO (h:=.iface 102 (.agg #[a2,f,c2,d2,E kind])) (H:=jP t kind) (l.at Y) I ⟨_,_,rfl⟩) ?_;rintro _ w' ⟨r,rfl,al⟩;refine aI ?_;clear al Y;intro Y;refine O ?_;have u:Z w0 w' [aZ fun w=>fB w (.iface 102 (.agg #[a2,f,c2,d2,E kind])) t (jP t kind)->bK w r t (jP t kind),aZ fun w=>bn w a2 f c2 d2 i t,ak y 26 [a,b,c,d]]:=Y;have x:=Z.rd (Δ:=[aZ fun w=>fB w (.iface 102 (.agg #[a2,f,c2,d2,E kind])) t (jP t kind)->bK w r t (jP t kind),aZ fun w=>bn w a2 f c2 d2 i t]) (φ:=fun w=>bK w r t (jP t kind)) (fun _ w h=>(h.ct 0 rfl) (YV hO m n (h.ct 1 rfl) I)) u;exact cR (v:=.pointer (some r)) (v':=.nilIface) rfl rfl rfl (.inr ⟨r,⟨m,n⟩,rfl,x.aY⟩)
def sI:J->Int
 | []=>0
 | x::l=>x+sI l
def K3:∀ (a b:J),sI (a++b)=sI a+sI b
 | [],b=>by show sI b=0+sI b;omega
 | x::a,b=>by
  show x+sI (a++b)=x+sI a+sI b;rw[K3 a b];omega
def xj:∀ {l:J},(∀ x∈l,0<=x)->0<=sI l
 | [],_=>dt _
 | x::l,h=>by
  have h1:=h x gz;have f:=xj fun y e=>h y (iR x e);show 0<=x+sI l;omega
def Rg {l:J}(h:∀ x∈l,0<=x)(k:Nat):0<=sI (l.take k)/\sI (l.take k)<=sI l:=by
 have h1:=K3 (l.take k) (l.drop k);rw[yF]at h1;have e:=xj (l:=l.take k) fun x hx=>h x (pO hx);have f:=xj (l:=l.drop k) fun x hx=>h x (Kk hx);omega
def Rh:∀ (L:List (List Nat × Int)),mn L=sI (L.map Prod.snd)
 | []=>rfl
 | x::L=>by
  show x.2+mn L=x.2+sI (L.map Prod.snd);rw[Rh L]
def YX {cs:J}{r:Option (List (List Nat × Int))}(h:rc t z cs r):eB t cs->∀ l,r=some l->∀ x∈l,0<=x.2:=by
 induction h with
 | qi _ _=>intro _ l e;cases e
 | done _ _=>intro _ l e x hx;cases e;exact absurd hx fI
 | @step cs V g0 K c r _ _ _ _ _ _ j _ n =>
  intro k l e x hx;have f:=En k j;obtain⟨⟨i,i1,i2,i3⟩,i4⟩:=j;have g:0<=c:=by have:=k.2 _ (cH W.dflt i2);omega
  cases r with
  | none=>cases e
  | some m =>
   have q:l=(K,c)::m:=(wx e).symm;subst q;rcases ee.1 hx with u|hx
   ·rw[u];exact g
   exact n f m rfl x hx
def YY {gv r sv:Value}(T:uQ w0 o t a fv gv r lv us)(I:aG t)(V:RS W w0 sv z)(bL:ab t.vars z) :
  Calls ai 266 #[.pointer (some o),sv] w0 fun e w'=>e=.returned (E (pW t z))/\Z w0 w' []:=by
 have Y:=Z.start w0;refine bA an Tryz.func266 ?_;refine O ?_;obtain⟨hb,u,A,B,C,D,F,hF⟩:=T;refine aL rfl (YZ ⟨hb.at Y,u.at Y,A.at Y,B.at Y,C.at Y,D.at Y,F,hF.at Y⟩ I (V.at Y) bL) ?_;rintro _ w' (⟨h,rfl,al⟩|⟨Q,L,cl,h,rfl,i,j,al⟩)
 ·replace Y:=Y.cy al
  clear al;refine⟨_,rfl,?_⟩;rw[cS (show (3:Int)≠0 by decide)];refine O ?_;exact bf (v:=E 1125899906842624) rfl rfl ⟨by rw[u0 bL h];rfl,gm Y⟩
 refine aI ?_;clear al Y;intro Y;have l:∀ x∈cl.map il.aN,0<=x:=fun x hx=>by
  rw[i]at hx;obtain⟨y,f,rfl⟩:=iS.1 hx;exact YX h (Eo I) L rfl y f
 have j':=K4 I h;have K:sI (cl.map il.aN)=mn L:=by rw[i,Rh]
 have g:(cl.map il.aN).length=cl.length:=iz _;have R:=(bk (s:=Q) Y).bU;refine O ?_;refine dQ [7,7,9,9,22,30] (G:=Nat) (H:=Int) (fun k m=>[(22,E k),(7,E m)]) (fun k m w=>k<=cl.length/\m=sI ((cl.map il.aN).take k)/\Z w0 w [X ca 361 Q cl]) (fun k _=>cl.length-k) 0 0 (fun _ _=>rfl) ⟨rfl,rfl,az⟩ ⟨bu _,rfl,Y⟩ ?_;clear Y;rintro σ k m w ⟨hk,hm,Y⟩;refine aB ?_ ?_<;>intro h1
 ·have f:k<cl.length:=U
  have n:sI ((cl.map il.aN).take (k+1))=m+(au ca cl k).aN:=by
   rw[eC W.dflt (by rw[g];exact f),K3,<-hm,nt,am (by rw[g];exact f),mK,am f];show m+(_+0)=_;omega
  have N:=Rg l (k+1);have P:=Rg l k;rw[<-hm]at P;have q:=j _ (cH (d:=ca.dflt) f);rw[<-nt]at q;have S:(ca.enc (au ca cl k)).all Value.oneCell'=true:=by
   show ((au ca cl k).M.oneCell' && ((Value.int .i64 (au ca cl k).aN).oneCell' && true))=true;rw[q];rfl
  rw[n]at N;refine db ?_;intro p w Y;exact⟨k+1,_,⟨rfl,rfl,az⟩,aU,⟨U,n.symm,Y.tail⟩,U⟩
 have f:k=cl.length:=U;rw[f,gH (by rw[g];exact cD _),K]at hm;refine O ?_;exact bf (v:=E m) rfl rfl ⟨by rw[u0 bL h,hm];rfl,gm Y⟩
def K5 {r c2 u y A:Value}{vars:J}{l:List bp}(F:dL w0 o [r,fv,c2,u,y,A])(K:RS W w0 fv (dD vars vars.length))(B:∀ x∈vars,1<=x)(q:∀ i,i<vars.length->vars.getD i W.dflt<=64)(j:vars.length<=64)(L:RS aq w0 lv l)(bL:∀ f∈l,bN vars f)(N:l.length<=64) :
  Calls ai 76 #[.pointer (some o),lv] w0 fun e w'=>∃ nv,e=.returned nv/\Z w0 w' [X W 3 nv (l.map (dE vars))]:=by
 have C:=Am vars vars.length;have Y:=Z.start w0;refine bA an Tryz.func76 ?_;replace Y:=Y.nil (T:=W) (e:=3);refine O ?_;refine dQ [5,5,7,7,10,28] (G:=Nat) (H:=Value) (fun k g=>[(10,E k),(5,g)]) (fun k g w=>k<=l.length/\Z w0 w [X W 3 g ((l.take k).map (dE vars))]) (fun k _=>l.length-k) 0 (nS) (fun _ _=>rfl) ⟨rfl,rfl,az⟩ ⟨bu _,Y⟩ ?_;clear Y;rintro P k g w ⟨hk,Y⟩;have D:((l.take k).map (dE vars)).length=k:=by rw[iz,jd];omega
 refine aB ?_ ?_<;>intro h1
 ·have h:k<l.length:=U
  obtain⟨Q,R,S,V⟩:=bL _ (cH aq.dflt h);have hv:(l.getD k aq.dflt).var.toNat<vars.length:=U;obtain⟨g0,g1,g2⟩:=CU B q j hv;have g3:=q _ hv;have m:(l.take (k+1)).map (dE vars)=(l.take k).map (dE vars)++[(dD vars vars.length).getD (l.getD k aq.dflt).var.toNat W.dflt+(l.getD k aq.dflt).val]:=by
   rw[eC aq.dflt h,oh,g0];rfl
  refine db ?_;intro p w Y;refine fz (pl [0,1,2,3,4,5,6,7,8,9,10,11,12,13,14] []) Y kr ?_;clear Y;intro w Y
  repeat (first|refine du ?_|(refine fA ?_;clear Y;intro s w Y))
  rw[<-m]at Y;obtain⟨n,rfl⟩:=À s;exact⟨k+1,n,⟨rfl,rfl,az⟩,aU,⟨U,Y.aY⟩,U⟩
 have h:k=l.length:=U;rw[h,gH (cD _)]at Y;refine O ?_;exact bf (v:=g) rfl rfl ⟨g,rfl,Y⟩
def sA.eQ {U':List Un}{v:wL}{u:Un}(h:sA us U' w)(j:us.length=U'.length)(hv:E3 w v u):sA (us++[v]) (U'++[u]) w:=fun i f=>by
 by_cases e:i<U'.length
 ·rw[Ri U,Rj e];exact h i e
 have g:i=U'.length:=by rw[length_append,r6]at f;omega
 rw[Rl U,g,Rm];exact hv
def Y0 {vars:J}{p q:List bp}:mB (dw (fh (p.map (dE vars)++q.map (dE vars)))) (cn vars q (cn vars p [])):=fun x=>by
 rw[Dk,Gy,gG,iS,iS,yf,yf];simp
def Y1 (ht:bn w0 a b c d vs t)(I:aG t) :
  Calls ai 54 #[.agg #[a,b,c,d]] w0 fun e w'=>∃ p a2 fv gv cv lv us,e=.returned (.tuple #[.pointer (some p),.nilIface])/\Z w0 w' [aZ fun w=>uQ w p t a2 fv gv cv lv us]:=by
 have j':=ht;obtain⟨ha,hb,hc,hd⟩:=ht;have _k:=hd.rs;have _l:=hd.len;have B:=I.vars;have _m:=I.M;have _n:=sd I.aH;have hN:=An I;have H':∀ f∈t.aH,bN t.vars f:=fun f P=>by
  obtain⟨i,q,e⟩:=fJ P;have:=(I.aH i q).1;rw[am q,e]at this;exact this
 have y:=fun i q=>(I.mN i q).2;have Y:=Z.start w0;refine bA an Tryz.func54 ?_;refine db ?_;clear Y;intro C w Y;refine aL rfl (tC (j'.at Y)) ?_;rintro _ w' ⟨rfl,al⟩;refine aA ?_;clear al Y;intro Y;rw[fK ((oz t).2 I)];refine O ?_;refine aL rfl (ns (ha.at Y) U) ?_;rintro _ w' ⟨a2,rfl,al⟩;refine aI ?_;clear al Y;intro Y;have oa:=(bk (s:=a2) Y).one;refine O ?_;refine rW (vs:=[(0,a2)]) (ls:=[(0,[a2])]) rfl (by show [(0,a2.cells.toList)]=_;rw[Bx oa]) rfl ?_;refine yo (vs:=[a2,nS,E 0,nS,nS,nS]) rfl Y ?_;clear Y;intro o w Y;replace Y:Z w0 w [ak o 134 [a2,nS,E 0,nS,nS,nS],X W 3 a2 t.vars,ak C 26 [a,b,c,d]]:=Y;replace Y:=Y.nil (T:=W) (e:=3);refine O ?_;refine dQ [7,7,26,51] (G:=Nat) (H:=Value) (fun k _=>[(26,E k)]) (fun k fv w=>k<=t.vars.length/\Z w0 w [X W 3 fv (dD t.vars k),ak o 134 [a2,fv,E (bD t.vars k),nS,nS,nS],X W 3 a2 t.vars,ak C 26 [a,b,c,d]]) (fun k _=>t.vars.length-k) 0 (nS) (fun _ _=>rfl) ⟨rfl,az⟩ ⟨bu _,Y⟩ ?_;clear Y;rintro σ k fv w ⟨hk,Y⟩;have J':=Am t.vars k;refine aB ?_ ?_<;>intro h1
 ·have r:k<t.vars.length:=U
  have j:=I.mN k r;have l:=CV I.pos (b:=k) U;have m:=Ep (fun i q=>(I.mN i q).2) (b:=k) U;refine O ?_;refine fz (pl [0,1,2,3,4,5,6,7,8,9] (.cI 4::pl [10,11,12,13] [])) Y kr ?_;clear Y;intro w Y
  repeat (first|refine du ?_|(refine tq ?_;clear Y;intro w Y)|(refine fA ?_;clear Y;intro s w Y))
  simp only[mM,mI]at Y;rw[<-Rn,<-CW r]at Y;obtain⟨g,rfl⟩:=À s;exact⟨k+1,g,⟨rfl,az⟩,aU,⟨U,Y.tail⟩,U⟩
 have K:k=t.vars.length:=U;subst K;rw[<-tA I]at Y;refine O ?_;refine aL rfl (K5 (pB (p:=o) Y) (bk (s:=fv) Y) I.pos y B (hc.at Y) H' U) ?_;rintro _ w' ⟨gv,rfl,al⟩;refine aI ?_;clear al Y;intro Y;have _o:=(bk (s:=gv) Y).one;refine iE ?_;clear Y;intro w Y;simp only[mM,mI]at Y;have m:Z w0 w (ak o 134 [a2,fv,E (aR t:Int),gv,(nS),(nS)]::X W 3 (nS) ((ar t).take 0)::X jG 138 (nS) ([]:List wL)::aZ (sA ([]:List wL) (gK t 0))::X W 3 fv (dD t.vars t.vars.length)::X W 3 gv (dA t)::X W 3 a2 t.vars::[ak C 26 [a,b,c,d]]):=by
  have g1:Z w0 w [X W 3 gv (dA t),X W 3 fv (dD t.vars t.vars.length),ak o 134 [a2,fv,E (aR t:Int),gv,nS,nS],X W 3 a2 t.vars,ak C 26 [a,b,c,d]]:=Y;have g2:=Z.pR (φ:=sA [] []) (fun w i q=>absurd q (dr _)) ((g1.nil (T:=W) (e:=3)).nil (T:=jG) (e:=138));have j:gK t 0=[]:=by simp[gK]
  rw[j,wK];exact g2.cw
 clear Y;have Y:=m;clear m;refine cP [8,9,11,12,62,121] (G:=Nat) (fun k=>[(62,E k)]) (fun k w=>k<=t.M.length/\∃ cv lv us,us.length=(gK t k).length/\Z w0 w (ak o 134 [a2,fv,E (aR t:Int),gv,cv,lv]::X W 3 cv ((ar t).take k)::X jG 138 lv us::aZ (sA us (gK t k))::X W 3 fv (dD t.vars t.vars.length)::X W 3 gv (dA t)::X W 3 a2 t.vars::[ak C 26 [a,b,c,d]])) (fun k=>t.M.length-k) 0 (fun _=>rfl) ⟨rfl,az⟩ ⟨bu _,_,_,_,rfl,Y⟩ ?_;clear Y;rintro _p k w ⟨hk,cv,lv,us,g,Y⟩;refine aB ?_ ?_<;>intro h2
 ·have r:k<t.M.length:=U
  have D:=hd.dJ k r;have _f:=D.one;have Q:=D.pre;have hgo:=I.op k r;have _q:=sd hgo.pre;have _r:=hgo.aJ;have P':=D.aN;obtain⟨es,L⟩:=D.aJ;have _g:=L.rs;have _h:=L.len;have _s:(ar t).length=t.M.length:=uA t;have _i:((ar t).take k).length=k:=by rw[jd];omega
  have R:(ar t).take (k+1)=(ar t).take k++[(au cd vs k).aN]:=by rw[eC W.dflt U,vZ r,P']
  refine db ?_;clear Y;intro p9 w Y;refine fz (pl [0,1,2,3,4,5,6,7] (.cI 4::pl [8,9,10,11] [])) Y kr ?_;clear Y;intro w Y
  repeat (first|refine du ?_|(refine tq ?_;clear Y;intro w Y)|(refine fA ?_;clear Y;intro s w Y))
  simp only[mM,mI]at Y;rw[<-R]at Y;obtain⟨l,rfl⟩:=À s;have m:Z w0 w (ak o 134 [a2,fv,E (aR t:Int),gv,l,lv]::X W 3 l ((ar t).take (k+1))::X jG 138 lv us::aZ (sA us (gK t k++lN t.vars k (t.M.getD k bj) 0))::ak p9 44 (cd.enc (au cd vs k))::X W 3 fv (dD t.vars t.vars.length)::X W 3 gv (dA t)::X W 3 a2 t.vars::[ak C 26 [a,b,c,d]]):=by
   have j:lN t.vars k (t.M.getD k bj) 0=[]:=rfl;rw[j,fS];exact Y.cw
  clear Y;have Y:=m;clear m;refine O ?_;refine cP [11,12,81,120] (G:=Nat) (fun j=>[(81,E j)]) (fun j w=>j<=(t.M.getD k bj).aJ.length/\∃ lv us,us.length=(gK t k++lN t.vars k (t.M.getD k bj) j).length/\Z w0 w (ak o 134 [a2,fv,E (aR t:Int),gv,l,lv]::X W 3 l ((ar t).take (k+1))::X jG 138 lv us::aZ (sA us (gK t k++lN t.vars k (t.M.getD k bj) j))::ak p9 44 (cd.enc (au cd vs k))::X W 3 fv (dD t.vars t.vars.length)::X W 3 gv (dA t)::X W 3 a2 t.vars::[ak C 26 [a,b,c,d]])) (fun j=>(t.M.getD k bj).aJ.length-j) 0 (fun _=>rfl) ⟨rfl,az⟩ ⟨bu _,_,_,by rw[show lN t.vars k (t.M.getD k bj) 0=[] from rfl,fS];exact g,Y⟩ ?_;clear Y g lv us;rintro _t j w ⟨hj,lv,us,g,Y⟩;refine aB ?_ ?_<;>intro h3
  ·have S:j<(t.M.getD k bj).aJ.length:=U
   have u:=L.dJ j S;have A:=hgo.ff j S;have _j:=u.one;have R':=u.bO;have T':∀ f∈(t.M.getD k bj).pre,bN t.vars f:=fun f P=>by
    obtain⟨i,q,rfl⟩:=fJ P;have:=(hgo.pre i q).1
    rwa[am q]at this
   have V':∀ f∈((t.M.getD k bj).aJ.getD j bE).bO,bN t.vars f:=fun f P=>by
    obtain⟨i,q,rfl⟩:=fJ P;have:=(A.1 i q).1
    rwa[am q]at this
   have _u:=sd A.1;refine db ?_;clear Y;intro _a w Y;refine fz (pl [0,1,2,4,5,6,3] (.cI 6::pl [7,8,9] [])) Y kr ?_;clear Y;intro w Y;refine O ?_;refine aL rfl (K5 (pB (p:=o) Y) (bk (s:=fv) Y) I.pos y B (Q.at Y) T' U) ?_;rintro _ w' ⟨n1,rfl,al⟩;refine aI ?_;clear al Y;intro Y;refine O ?_;refine aL rfl (K5 (pB (p:=o) Y) (bk (s:=fv) Y) I.pos y B (R'.at Y) V' U) ?_;rintro _ w' ⟨n2,rfl,al⟩;refine aI ?_;clear al Y;intro Y;have _v:((t.M.getD k bj).pre.map (dE t.vars)).length=(t.M.getD k bj).pre.length:=iz _;have _w:(((t.M.getD k bj).aJ.getD j bE).bO.map (dE t.vars)).length=((t.M.getD k bj).aJ.getD j bE).bO.length:=iz _;refine nX ?_;clear Y;intro s w Y;obtain⟨nd,rfl⟩:=À s;have m:Z w0 w (X W 3 nd ((t.M.getD k bj).pre.map (dE t.vars)++((t.M.getD k bj).aJ.getD j bE).bO.map (dE t.vars))::ak _a 61 (aV.enc (au aV es j))::ak p9 44 (cd.enc (au cd vs k))::ak o 134 [a2,fv,E (aR t:Int),gv,l,lv]::X W 3 l ((ar t).take (k+1))::X jG 138 lv us::aZ (sA us (gK t k++lN t.vars k (t.M.getD k bj) j))::X W 3 fv (dD t.vars t.vars.length)::X W 3 gv (dA t)::X W 3 a2 t.vars::[ak C 26 [a,b,c,d]]):=Y.cw;have _x:((t.M.getD k bj).pre.map (dE t.vars)++((t.M.getD k bj).aJ.getD j bE).bO.map (dE t.vars)).length<=128:=by rw[length_append];omega
   refine aL rfl (Dx (s:=nd) m U) ?_;clear Y m;rintro _ w ⟨rfl,Y⟩;refine⟨_,rfl,?_⟩;have _b:bN t.vars ⟨(au aV es j).var,(au aV es j).val⟩:=by rw[u.var,u.val];exact tO A
   obtain⟨x0,x1,x2,x3⟩:=_b;have y0:0<=(au aV es j).var:=x0;have y1:(au aV es j).var<t.vars.length:=x1;have y2:0<=(au aV es j).val:=x2;have y3:(au aV es j).val<t.vars.getD (au aV es j).var.toNat W.dflt:=x3;clear x0 x1 x2 x3;have hv:(au aV es j).var.toNat<t.vars.length:=U;obtain⟨g0,g1,g2⟩:=CU I.pos y B hv;have g3:=y _ hv;rw[<-g0]at g1 g2;have J':=Am t.vars t.vars.length;have _y:us.length<=1048576:=by
    have n:=By I (k:=k) U;rw[g,length_append,Bz];omega
   refine O ?_;refine fz (pl [0,1,2,3,4,5,6,7,8,9,10,11,12,13,14,15,16,17,18] (.cI 4::.cI 9::.cI 11::.cI 13::.cI 15::pl [19] (.cI 4::pl [20] (.cI 4::pl [21,22,23,24] [])))) Y kr ?_;clear Y;intro w Y;refine O ?_;refine aL rfl (Gz (s:=nd) Y (by rw[DH];omega)) ?_;clear Y;rintro _ w ⟨n,rfl,Y⟩;refine⟨_,rfl,?_⟩;have V:=(bk (s:=n) Y).one;refine O ?_;have _c:(dD t.vars t.vars.length).getD (au aV es j).var.toNat W.dflt+(au aV es j).val=dE t.vars ⟨((t.M.getD k bj).aJ.getD j bE).var,((t.M.getD k bj).aJ.getD j bE).val⟩:=by
    rw[g0,u.var,u.val];rfl
   rw[_c];obtain⟨mk,F⟩:=À (dE t.vars ⟨((t.M.getD k bj).aJ.getD j bE).var,((t.M.getD k bj).aJ.getD j bE).val⟩);rw[<-F];refine yA (v1:=E (k:Int)) (v2:=E mk) (v3:=n) rfl rfl rfl rfl (by simp only[eD,eN,V];rfl) ?_;refine O ?_;refine jK jG (x1:=⟨k,mk,n⟩) rfl rfl rfl (fY rfl) (fe _) Y ?_;clear Y;intro sl w Y;refine O ?_;refine q7 (s:=lv) (s2:=sl) inferInstance rfl rfl (bk Y) rfl rfl (fun x hx v hv=>?_) (by simp only[length_cons,length_nil];omega) (by unfold bU;simp only[length_cons,length_nil];omega) Y ?_
   ·rw[dp.1 hx]at hv
    simp only[jG,ee,fI,pP]at hv;rcases hv with rfl|rfl|rfl
    ·rfl
    ·rfl
    exact V
   clear Y;intro N w Y;refine iE ?_;clear Y;intro w Y;simp only[mM,mI]at Y;have _d:Z w0 w (X W 3 n (dw (fh ((t.M.getD k bj).pre.map (dE t.vars)++((t.M.getD k bj).aJ.getD j bE).bO.map (dE t.vars))))::aZ (sA us (gK t k++lN t.vars k (t.M.getD k bj) j))::ak o 134 [a2,fv,E (aR t:Int),gv,l,N]::X W 3 l ((ar t).take (k+1))::X jG 138 N (us++[⟨k,mk,n⟩])::ak p9 44 (cd.enc (au cd vs k))::X W 3 fv (dD t.vars t.vars.length)::X W 3 gv (dA t)::X W 3 a2 t.vars::[ak C 26 [a,b,c,d]]):=Y.cw
   have _e:=Z.rd (Δ:=[X W 3 n (dw (fh ((t.M.getD k bj).pre.map (dE t.vars)++((t.M.getD k bj).aJ.getD j bE).bO.map (dE t.vars)))),aZ (sA us (gK t k++lN t.vars k (t.M.getD k bj) j))]) (φ:=sA (us++[⟨k,mk,n⟩]) (gK t k++lN t.vars k (t.M.getD k bj) (j+1))) (fun _ w h=>by
    rw[K6,<-fL]
    exact(h.ct 1 rfl).eQ g ⟨rfl,F,_,h.rs 0 rfl,Y0⟩) _d
   exact⟨j+1,⟨rfl,az⟩,aU,⟨U,N,us++[⟨k,mk,n⟩],by rw[K6,<-fL,length_append,length_append,g];rfl,_e.cw⟩,U⟩
  have n:j=(t.M.getD k bj).aJ.length:=U;subst n;rw[<-yN]at Y g;refine O ?_;exact⟨k+1,⟨rfl,az⟩,aU,⟨U,l,lv,us,g,Y.cw⟩,U⟩
 have K:k=t.M.length:=U;subst K;rw[gH (by rw[uA];exact cD _)]at Y;refine O ?_;have j:=Z.rd (Δ:=[ak o 134 [a2,fv,E (aR t:Int),gv,cv,lv],X W 3 cv (ar t),X jG 138 lv us,aZ (sA us (bW t)),X W 3 fv (dD t.vars t.vars.length),X W 3 gv (dA t),X W 3 a2 t.vars]) (φ:=fun w=>uQ w o t a2 fv gv cv lv us) (fun _ w h=>⟨h.gn 0 rfl,h.rs 6 rfl,h.rs 4 rfl,h.rs 5 rfl,h.rs 1 rfl,h.rs 2 rfl,g,h.ct 3 rfl⟩) Y;exact cR (v:=.pointer (some o)) (v':=.nilIface) rfl rfl rfl ⟨o,a2,fv,gv,cv,lv,us,rfl,j.aY⟩
def uQ.at {w0 w:World}{Γ:List HP}{o:Addr}{t:aa}{a fv gv cv lv:Value}{us:List wL}(h:uQ w0 o t a fv gv cv lv us)(Y:Z w0 w Γ):uQ w o t a fv gv cv lv us :=
 ⟨h.box.at Y,h.vars.at Y,h.fst.at Y,h.aH.at Y,h.aS.at Y,h.BQ.at Y,h.len,h.un.at Y⟩
def Y2 {gv cv:Value}(h:uQ w o t a fv gv cv lv us)(I:aG t):fB w (.iface 98 (.pointer (some o))) t (pW t) :=
 ⟨_,_,_,_,rfl,HH _,inferInstance,fun _ _ _ _ f e bL=>YY (h.at f) I e bL⟩
def Y3 (j:bn w0 a b c d vs t)(I:aG t) :
  Calls ai 28 #[.agg #[a,b,c,d]] w0 fun e w'=>∃ p,e=.returned (.tuple #[.pointer (some p),.nilIface])/\Z w0 w' [aZ fun w=>bK w p t (pW t)]:=by
 have Y:=Z.start w0;refine bA an Tryz.func28 ?_;refine db ?_;intro l w Y;refine aL rfl (Y1 (j.at Y) I) ?_;rintro _ w' ⟨o,a2,fv,gv,k,lv,us,rfl,al⟩;refine aI ?_;clear al Y;intro Y;refine O ?_;refine aL rfl (xO (h:=.iface 98 (.pointer (some o))) (H:=pW t) (j.at Y) I ⟨_,_,rfl⟩) ?_;rintro _ w' ⟨f,rfl,al⟩;refine aI ?_;clear al Y;intro Y;refine O ?_;have g:Z w0 w' [aZ fun w=>fB w (.iface 98 (.pointer (some o))) t (pW t)->bK w f t (pW t),aZ fun w=>uQ w o t a2 fv gv k lv us,ak l 26 [a,b,c,d]]:=Y;have i:=Z.rd (Δ:=[aZ fun w=>fB w (.iface 98 (.pointer (some o))) t (pW t)->bK w f t (pW t),aZ fun w=>uQ w o t a2 fv gv k lv us]) (φ:=fun w=>bK w f t (pW t)) (fun _ w h=>(h.ct 0 rfl) (Y2 (h.ct 1 rfl) I)) g;exact cR (v:=.pointer (some f)) (v':=.nilIface) rfl rfl rfl ⟨f,rfl,i.aY⟩
structure oN (w:World) (o:Addr) (t:aa):Prop where
 ex:∃ a c fv uv nv frv us ss,dL w o [a,nS,c,nS,fv,E (aR t:Int),uv,nv,frv]/\RS W w a t.vars/\RS aq w c t.aH/\RS W w fv (dD t.vars t.vars.length)/\RS kZ w uv us/\us.length=(bW t).length/\nI us (bW t) w/\RS ap w nv ss/\ss.length=aR t/\(∀ f,f<aR t->RS W w (cG ss f) (ep (bW t) f))/\RS W w frv (dW (bW t))
def Y4 (ht:bn w0 a b c d vs t)(I:aG t) :
  Calls ai 53 #[.agg #[a,b,c,d],nS] w0 fun e w'=>∃ p,e=.returned (.tuple #[.pointer (some p),.nilIface])/\Z w0 w' [aZ fun w=>oN w p t]:=by
 have J':=ht;obtain⟨ha,hb,hc,hd⟩:=ht;have _l:=hd.rs;have _m:=hd.len;have Q:=I.vars;have _n:=I.M;have _o:=sd I.aH;have Y:=Z.start w0;refine bA an Tryz.func53 ?_;refine db ?_;clear Y;intro A w Y;refine aL rfl (tC (J'.at Y)) ?_;rintro _ w' ⟨rfl,al⟩;refine aA ?_;clear al Y;intro Y;rw[fK ((oz t).2 I)];replace Y:=Y.nil (T:=W) (e:=3);have hz:(([]:J).length:Int)=0:=rfl;refine O ?_;refine cP [4,5,8,8,36,47] (G:=Unit) (fun _=>[(36,E 0)]) (fun _ w=>Z w0 w [X W 3 (nS) [],ak A 26 [a,b,c,d]]) (fun _=>0) () (fun _=>rfl) ⟨rfl,az⟩ Y ?_;clear Y;rintro σ _ w Y;refine O ?_;replace Y:=Y.tail;refine fz (pl [0,1,3,4,2] (.cI 4::pl [5,6,7,8,9] [])) Y kr ?_;clear Y;intro w Y;refine O ?_;refine aL rfl (ns (ha.at Y) U) ?_;rintro _ w' ⟨a2,rfl,al⟩;refine aI ?_;clear al Y;intro Y;refine O ?_;refine aL rfl (DA (hc.at Y) U) ?_;rintro _ w' ⟨c2,rfl,al⟩;refine aI ?_;clear al Y;intro Y;refine O ?_;have oa:=(bk (s:=a2) Y).one;have oc:=(bk (s:=c2) Y).one;refine zH (v1:=a2) (v2:=c2) rfl rfl rfl (by simp only[eD,eN,oa,oc];rfl) ?_;refine O ?_;refine rW (vs:=[(0,.agg #[a2,nS,c2,nS])]) (ls:=[(0,[a2,nS,c2,nS])]) rfl rfl rfl ?_;refine db ?_;clear Y;intro o w Y;replace Y:Z w0 w [ak o 127 [a2,nS,c2,nS,nS,E 0,nS,nS,nS],X aq 63 c2 t.aH,X W 3 a2 t.vars,ak A 26 [a,b,c,d]]:=Y;replace Y:=Y.nil (T:=W) (e:=3);refine dQ [11,11,60,85] (G:=Nat) (H:=Value) (fun k _=>[(60,E k)]) (fun k fv w=>k<=t.vars.length/\Z w0 w [X W 3 fv (dD t.vars k),ak o 127 [a2,nS,c2,nS,fv,E (bD t.vars k),nS,nS,nS],X aq 63 c2 t.aH,X W 3 a2 t.vars,ak A 26 [a,b,c,d]]) (fun k _=>t.vars.length-k) 0 (nS) (fun _ _=>rfl) ⟨rfl,az⟩ ⟨bu _,Y⟩ ?_
 clear Y;rintro σ k fv w ⟨hk,Y⟩;have _p:=Am t.vars k;refine aB ?_ ?_<;>intro h1
 ·have y:k<t.vars.length:=U
  have g:=I.mN k y;have j:=CV I.pos (b:=k) U;have l:=Ep (fun i u=>(I.mN i u).2) (b:=k) U;refine O ?_;refine fz (pl [0,1,2,3,4,5,6,7,8,9] (.cI 4::pl [10,11,12,13] [])) Y kr ?_;clear Y;intro w Y
  repeat (first|refine du ?_|(refine tq ?_;clear Y;intro w Y)|(refine fA ?_;clear Y;intro s w Y))
  rw[<-Rn,<-CW y]at Y;exact⟨k+1,s,⟨rfl,az⟩,aU,⟨U,Y.tail⟩,U⟩
 have D:k=t.vars.length:=U;subst D;rw[<-tA I]at Y;have hN:=An I;refine nX ?_;clear Y;intro s w Y;obtain⟨q,rfl⟩:=À s;have m:Z w0 w (aj W 3 (replicate (aR t) (nS)) (gb (gK t 0) (aR t))::X ap 22 q (replicate (aR t) (nS))::ak o 127 [a2,nS,c2,nS,fv,E (aR t:Int),(nS),q,(nS)]::X W 3 fv (dD t.vars t.vars.length)::X kZ 131 (nS) ([]:List yh)::aZ (nI ([]:List yh) (gK t 0))::X W 3 (nS) (dW (gK t 0))::X W 3 (nS) []::X aq 63 c2 t.aH::X W 3 a2 t.vars::[ak A 26 [a,b,c,d]]):=by
  rw[jo]at Y;have g1:Z w0 w [X ap 22 q (replicate (aR t) (nS)),X W 3 fv (dD t.vars t.vars.length),ak o 127 [a2,nS,c2,nS,fv,E (aR t:Int),nS,q,nS],X aq 63 c2 t.aH,X W 3 a2 t.vars,ak A 26 [a,b,c,d]]:=Y;have g2:=Z.pR (φ:=nI [] []) (fun w i u=>absurd u (dr _)) ((((g1.nil (T:=W) (e:=3)).nil (T:=W) (e:=3)).nil (T:=kZ) (e:=131)).gI (T:=W) (e:=3) (aR t));have j:gK t 0=[]:=by simp[gK]
  rw[<-Y5]at g2;rw[j,Y6];exact g2.cw
 clear Y;have Y:=m;clear m;refine cP [12,16,97,137] (G:=Nat) (fun k=>[(97,E k)]) (fun k w=>k<=t.M.length/\∃ n g us l,us.length=(gK t k).length/\Z w0 w (aj W 3 l (gb (gK t k) (aR t))::X ap 22 q l::ak o 127 [a2,nS,c2,nS,fv,E (aR t:Int),n,q,g]::X W 3 fv (dD t.vars t.vars.length)::X kZ 131 n us::aZ (nI us (gK t k))::X W 3 g (dW (gK t k))::X W 3 (nS) []::X aq 63 c2 t.aH::X W 3 a2 t.vars::[ak A 26 [a,b,c,d]])) (fun k=>t.M.length-k) 0 (fun _=>rfl) ⟨rfl,az⟩ ⟨bu _,_,_,_,_,rfl,Y⟩ ?_;clear Y;rintro _q k w ⟨hk,n,g,us,l,r,Y⟩;refine aB ?_ ?_<;>intro h2
 ·have y:k<t.M.length:=U
  have B:=hd.dJ k y;have _h:=B.one;have R:=B.pre;have hgo:=I.op k y;have _r:=sd hgo.pre;have _s:=hgo.aJ;obtain⟨es,F⟩:=B.aJ;have _i:=F.rs;have _j:=F.len;refine db ?_;clear Y;intro K w Y;have m:Z w0 w (aj W 3 l (gb (gK t k++lN t.vars k (t.M.getD k bj) 0) (aR t))::X ap 22 q l::ak o 127 [a2,nS,c2,nS,fv,E (aR t:Int),n,q,g]::X W 3 fv (dD t.vars t.vars.length)::X kZ 131 n us::aZ (nI us (gK t k++lN t.vars k (t.M.getD k bj) 0))::X W 3 g (dW (gK t k++lN t.vars k (t.M.getD k bj) 0))::ak K 44 (cd.enc (au cd vs k))::X W 3 (nS) []::X aq 63 c2 t.aH::X W 3 a2 t.vars::[ak A 26 [a,b,c,d]]):=by
   have j:lN t.vars k (t.M.getD k bj) 0=[]:=rfl;rw[j,fS];exact Y.cw
  clear Y;have Y:=m;clear m;refine cP [15,16,114,136] (G:=Nat) (fun j=>[(114,E j)]) (fun j w=>j<=(t.M.getD k bj).aJ.length/\∃ n g us l,us.length=(gK t k++lN t.vars k (t.M.getD k bj) j).length/\Z w0 w (aj W 3 l (gb (gK t k++lN t.vars k (t.M.getD k bj) j) (aR t))::X ap 22 q l::ak o 127 [a2,nS,c2,nS,fv,E (aR t:Int),n,q,g]::X W 3 fv (dD t.vars t.vars.length)::X kZ 131 n us::aZ (nI us (gK t k++lN t.vars k (t.M.getD k bj) j))::X W 3 g (dW (gK t k++lN t.vars k (t.M.getD k bj) j))::ak K 44 (cd.enc (au cd vs k))::X W 3 (nS) []::X aq 63 c2 t.aH::X W 3 a2 t.vars::[ak A 26 [a,b,c,d]])) (fun j=>(t.M.getD k bj).aJ.length-j) 0 (fun _=>rfl) ⟨rfl,az⟩ ⟨bu _,_,_,_,_,by rw[show lN t.vars k (t.M.getD k bj) 0=[] from rfl,fS];exact r,Y⟩ ?_;clear Y r n g us l;rintro _t j w ⟨hj,n,g,us,l,r,Y⟩;refine aB ?_ ?_<;>intro h3
  ·have S:j<(t.M.getD k bj).aJ.length:=U
   have x:=F.dJ j S;have L:=hgo.ff j S;have _k:=x.one;have P':=x.bO;refine db ?_;clear Y;intro R' w Y;refine fz (pl [0,1,2,3,4,5,6,7,8,12,13,14,15,9] (.cI 13::.cI 15::pl [10] (.cI 13::.cI 15::pl [11] (.cI 13::.cI 15::pl [16] [])))) Y kr ?_;clear Y;intro w Y;refine O ?_;have T':bN t.vars ⟨(au aV es j).var,(au aV es j).val⟩:=by rw[x.var,x.val];exact tO L
   refine aL rfl (K7 (f:=⟨(au aV es j).var,(au aV es j).val⟩) (pB (p:=o) Y) (bk (s:=fv) Y) I.pos (fun i u=>(I.mN i u).2) Q T') ?_;rintro _ w' ⟨rfl,al⟩;refine aA ?_;clear al Y;intro Y;refine O ?_;refine Yf (v1:=E (k:Int)) (v2:=E (j:Int)) (v3:=E (au cd vs k).aN) (v4:=E (dE t.vars ⟨(au aV es j).var,(au aV es j).val⟩)) rfl rfl rfl rfl rfl rfl ?_;refine O ?_;have V':RS aq w0 (au cd vs k).pre (t.M.getD k bj).pre:=R;have _a:∀ f∈(t.M.getD k bj).pre,bN t.vars f:=fun f P=>by
    obtain⟨i,u,rfl⟩:=fJ P;have:=(hgo.pre i u).1
    rwa[am u]at this
   have _b:∀ f∈((t.M.getD k bj).aJ.getD j bE).bO,bN t.vars f:=fun f P=>by
    obtain⟨i,u,rfl⟩:=fJ P;have:=(L.1 i u).1
    rwa[am u]at this
   have _u:=sd L.1;have _c:(gK t k++lN t.vars k (t.M.getD k bj) j).length<=1048576:=by
    have C:=By I (k:=k) U;rw[length_append,Bz];omega
   have m:Z w0 w' (aj W 3 l (gb (gK t k++lN t.vars k (t.M.getD k bj) j) (aR t))::X ap 22 q l::ak o 127 [a2,nS,c2,nS,fv,E (aR t:Int),n,q,g]::X W 3 fv (dD t.vars t.vars.length)::X kZ 131 n us::aZ (nI us (gK t k++lN t.vars k (t.M.getD k bj) j))::X W 3 g (dW (gK t k++lN t.vars k (t.M.getD k bj) j))::ak R' 61 (aV.enc (au aV es j))::ak K 44 (cd.enc (au cd vs k))::X W 3 (nS) []::X aq 63 c2 t.aH::X W 3 a2 t.vars::[ak A 26 [a,b,c,d]]):=Y.cw;refine aL rfl (Y7 (l1:=(t.M.getD k bj).pre) (l2:=((t.M.getD k bj).aJ.getD j bE).bO) (vars:=t.vars) (N:=aR t) I.pos (fun i u=>(I.mN i u).2) Q (tA I) hN _c V' P' _a _b U U r m) ?_;clear Y m;rintro _ w ⟨rfl,_d,V,_e,_f,C,Y⟩;refine⟨_,rfl,?_⟩;have j':=x.var;have H':=x.val;have _g:=B.aN;rw[j',H',_g,fL,show Un.mk (k:Int) (j:Int) (t.M.getD k bj).aN (dE t.vars ⟨((t.M.getD k bj).aJ.getD j bE).var,((t.M.getD k bj).aJ.getD j bE).val⟩) (cn t.vars ((t.M.getD k bj).aJ.getD j bE).bO (cn t.vars (t.M.getD k bj).pre []))=yO t.vars k (t.M.getD k bj) j from rfl,<-K6]at Y C;refine O ?_;exact⟨j+1,⟨rfl,az⟩,aU,⟨U,_d,V,_e,_f,C,Y.cw⟩,U⟩
  have u:j=(t.M.getD k bj).aJ.length:=U;subst u;rw[<-yN]at Y r;refine O ?_;exact⟨k+1,⟨rfl,az⟩,aU,⟨U,n,g,us,l,r,Y.cw⟩,U⟩
 have D:k=t.M.length:=U;subst D;have j:l.length=aR t:=by rw[Y.cb,K8]
 refine O ?_
 have u:=Z.rd (Δ:=[aj W 3 l (gb (gK t t.M.length) (aR t)),X ap 22 q l,ak o 127 [a2,nS,c2,nS,fv,E (aR t:Int),n,q,g],X W 3 fv (dD t.vars t.vars.length),X kZ 131 n us,aZ (nI us (gK t t.M.length)),X W 3 g (dW (gK t t.M.length)),X W 3 (nS) [],X aq 63 c2 t.aH,X W 3 a2 t.vars]) (φ:=fun w=>oN w o t) (fun _ w h=>by
  refine⟨a2,c2,fv,n,q,g,us,l,h.gn 2 rfl,h.rs 9 rfl,h.rs 8 rfl,h.rs 3 rfl,h.rs 4 rfl,r,h.ct 5 rfl,h.rs 1 rfl,j,fun f P=>?_,h.rs 6 rfl⟩;have h3:Z _ w [aj W 3 l (gb (gK t t.M.length) (aR t))]:=h.aY;have x:=h3.row (i:=f) (by rw[K8];exact P);rw[Y8 P]at x
  exact x) Y
 exact cR (v:=.pointer (some o)) (v':=.nilIface) rfl rfl rfl ⟨o,rfl,u.aY⟩
end Go.Proofs.YtmapkjoefdgjfaaGreatDoor
