/- Several texts. -/
import Derived.Test.YtmapkjoefdgjfaaGreatDoorMW8E
set_option linter.unusedSimpArgs false
set_option linter.unusedVariables false
set_option linter.defProp false
set_option maxRecDepth 8000
set_option maxHeartbeats 16000000
open List Nat
namespace Go.Proofs.YtmapkjoefdgjfaaGreatDoor
open Go.Sl Go
variable {w0:World}{a b c d:Value}{vs:List iW}{t:aa}{m:Addr}{L:J}{xs:List bp}
attribute [local irreducible] vc opsW opsD opV opW PureV ReadV Thn Blk
def V9 (S:w0.cell? m=some a)(V:RS W w0 a L)(P:L.length<=4096) :
  Calls ai 145 #[nS,.func (.func 113) #[] #[.pointer (some m)]] w0 fun e w'=>∃ s,e=.returned s/\Z w0 w' [X W 3 s L]:=by
 have Y:=Z.start w0;refine(callsIn_wide (n:=3)).1 (callsIn_of_wp_marks (F:=Fence.wide) (n:=3) Tryz.func145 rfl trivial ?_);refine Gg (ro:=none) (n:=13) an kr (by simp only[Array.size_append,OM];rfl) rfl ?_;rw[show (#[nS,.func (.func 113) #[] #[.pointer (some m)]]:Array Value)=[nS,.func (.func 113) #[] #[.pointer (some m)]].toArray from rfl,ON];refine tm ?_;refine xU ?_;clear Y;intro G w Y;refine O ?_;intro a1 z A B;refine wpIn_seq ?_;refine Gg (ro:=none) (n:=13) an kr z A ?_;rw[B];refine O ?_;intro a2 f Q q;clear B A z;refine wpIn_block ?_;have j:a2.defers=[]:=Q;have ea:(⟨a2.tmps,[]⟩:Act)=a2:=by rw[<-j]
 have ez:∀ x:Int,({ tmps:=(#[7].zip (BM x)).foldl (fun t (p,v)=>t.setIfInBounds p v) a2.tmps,defers:=[] }:Act)=a2.put (some 7) (E x):=fun x=>by
  rw[<-ea];unfold BM;simp[Act.put]
 obtain⟨W0,j'⟩:=À w;have hB:w0.heap.size<=w.heap.size:=Y.below.size
 refine wpIn_rangeFunc_ownF (F:=Fence.wide) (n:=3) (α:=Int) rfl dc (gf:=113) (lb:=#[.pointer (some m)]) (by rw[<-q9,q];rfl) trivial (fun args w=>ao.run inferInstance args w)
  (Wa (n:=2) S V)
  (fun h k=>⟨fun e=>k.1 (h.1 e),fun e=>k.2 (h.2 e)⟩) (fun i l o N _ P g _=>⟨JP P g,OO P g⟩) Y.below (fun _=>rfl)
  (fun pre i=>∃ v,oI w0 i [X W 3 v pre,ak G 22 [v]])
  (fun _ _ _=>False) (fun s i H row ⟨v,h⟩ I C=>⟨v,h.EV hB I C⟩) (fun _=>fun _ _ _ _ h=>h.elim) ⟨nS,(Y.nil (T:=W) (e:=3)).OP⟩
  (fun x=>(a2.put (some 7) (E x)).put (some 5) (E x)) ?assign ?body ?done ?stop
 case assign =>
  intro l x i K N;rw[ez];refine OQ (ro:=some l) an (by rw[eW,f];decide) (by rw[zQ];exact j) ?_;rw[wB (fun t e=>by cases e;rw[f];decide)];exact N
 case body =>
  rintro l pre x i ⟨v,C⟩ hlen;have hb:=C.below;refine wpIn_mono (wC (ro:=some l) (n:=13) an _ kr (fun e ρ H=>e=.normal/\i.heap.size<=H.heap.size/\∃ g,Z w0 H (xd w0 i::[X W 3 g (pre++[x]),ak G 22 [g]])) _ _ (by rw[eW,eW,f]) (by rw[zQ,zQ];exact j) ?_) ?_
  ·rw[wB (fun t e=>by cases e;rw[eW,f];decide),wB (fun t e=>by cases e;rw[f];decide),q]
   clear Y;have Y:=C.open;have R:pre.length<=4096:=U;refine Cp ?_;refine tm ?_
   repeat (first|refine Bg ?_|refine Cq ?_)
   refine Wb W (x1:=x) rfl rfl rfl (fY rfl) (fe _) Y ?_;clear Y;intro s1 w1 H' Y;refine Wc (T:=W) (sz:=1) (by_:=8) (e:=3) (zs:=[E 0]) (s:=v) (s2:=s1) (xs:=pre) (ys:=[x]) inferInstance rfl rfl (bk Y) rfl rfl (fun y _ u hu=>kq.ok y u hu) (by simp only[length_cons,length_nil];omega) (by unfold bU;simp only[length_cons,length_nil];omega) Y ?_;clear Y;intro s2 w2 J' Y;refine OR (k:=0) (p:=G) (v:=s2) (by simp[Addr.add];rfl) rfl ((bk (s:=s2) Y).one) Y inferInstance sm ?_;clear Y;intro w3 Y o;refine O ?_;exact⟨rfl,by rw[o.1];omega,s2,Y.tail⟩
  intro e a' H hq;obtain⟨_,_,rfl,R,g,o⟩:=hq;obtain⟨h1,h2⟩:=Z.B4 hb o R;exact⟨h2,⟨fun _=>Gh S o,fun _=>V.at o⟩,g,h1⟩
 case done =>
  rintro D xs i hD o ⟨v,C⟩ N;show Code.wpIn (fw none) 3 _ _ _ _ _;refine wpIn_seq ?_;refine Wd (n:=13) (ds:={ target:=.collected D,args:=#[] }::a2.defers) (K:=fun ρ w'=>ρ 4=v/\w'=i) (fun a w h=>?_) kr f rfl ?_
  ·obtain⟨g1,g2,g3,rfl⟩:=h
   show Code.wpIn (fw none) 3 _ _ _ _ _;refine wpIn_ret ?_;rw[j]at g2;obtain⟨H,H'⟩:=a;subst g2;refine⟨sm,.inl ⟨_,_,rfl,run_takeDeferred N,?_⟩⟩;have R:∃ g,g=v/\oI w0 (w.putObj D (.deferred none)) [X W 3 g xs,ak G 22 [g]]:=⟨v,rfl,C.EV hB (grownBy_putObj' w D (.deferred none)) fun r e=>by cases e;exact⟨hD,_,N,rfl⟩⟩
   obtain⟨g,rfl,R⟩:=R;have o:xs=L:=o;subst o;have g4:H[4]?.getD undef=g:=by rw[<-JQ];exact g3
   exact⟨g,by simp[results,Tryz.f145,Act.eval,g4],g,rfl,R.wR.aY⟩
  clear Y;have Y:=C.wR;show opsW _ _ _ [_,_] (fr a2) _;rw[q];refine O ?_;exact⟨rfl,rfl⟩
 case stop =>
  rintro D c pre i _ _ g _;exact g.elim
def We (n:Nat):fh (c9 n)=c9 n:=by
 unfold fh;refine mergeSort_of_pairwise ?_;unfold c9;rw[Bc];exact Dw.imp fun h=>by simp;omega
def Wf (f:w0.cell? m=some a)(g:RS W w0 a L)(h:L.length<=4096) :
  Calls ai 112 #[.func (.func 113) #[] #[.pointer (some m)]] w0 fun e w'=>∃ s,e=.returned s/\Z w0 w' [X W 3 s L]:=by
 have Y:=Z.start w0;refine bA an Tryz.func112 ?_;refine O ?_;refine aL rfl (V9 (Gh f Y) (g.at Y) h) ?_;rintro _ w' ⟨s,rfl,al⟩;refine aI ?_;clear al Y;intro Y;refine O ?_;exact bf (v:=s) rfl rfl ⟨s,rfl,Y⟩
def Wg (g:w0.cell? m=some a)(h:RS W w0 a L)(i:L.length<=4096) :
  Calls ai 87 #[.func (.func 113) #[] #[.pointer (some m)]] w0 fun e w'=>∃ s,e=.returned s/\Z w0 w' [X W 3 s (fh L)]:=by
 have Y:=Z.start w0;refine bA an Tryz.func87 ?_;refine O ?_;refine aL rfl (Wf (Gh g Y) (h.at Y) i) ?_;rintro _ w' ⟨s,rfl,al⟩;refine aI ?_;clear al Y;intro Y;refine O ?_;refine aL rfl (Dx (s:=s) Y U) ?_;rintro _ w' ⟨rfl,f⟩;clear Y;have Y:=f;clear f;refine⟨_,rfl,?_⟩;refine O ?_;exact bf (v:=s) rfl rfl ⟨s,rfl,Y⟩
def Wh {S:bZ}(hv:dR S):((mW S).length:Int)=S.st:=by
 have h:=(OT (JR hv) (fr:=gM S.aQ S.aQ.length) (Gi _) (fun i e=>by have:=Dy.1 e;have f:=hv.2.2.2.2.1;omega)).1.ol;have h1:=hv.1;unfold mW Cr vL;omega
def AD (t:aa)(L:List kw)(D:J):Prop:=(∀ k,k<L.length->∃ n,Ch t.vars L n)/\∀ s,ab t.vars s->0<=oo s L/\oo s L<D.length
def Wi {A:Value}{M':Int}(hT:lR w0)(I:aG t)(B:bn w0 a b c d vs t)(D:RS W w0 A (c9 t.vars.length)) :
  Calls ai 58 #[.agg #[a,b,c,d],A,E M'] w0 fun e w'=>(eM t M'≠0/\e=.returned (.tuple #[.pointer none,bI (eM t M')])/\Z w0 w' [])\/(eM t M'=0/\AD t (rk t M') (tW t M')/\∃ p,e=.returned (.tuple #[.pointer (some p),.nilIface])/\Z w0 w' [aZ fun w=>vM w p t (rk t M') (tW t M')]):=by
 have F:=(oz t).2 I;have j':=I.vars;have H':(c9 t.vars.length).length=t.vars.length:=Ct _;have J':=B.1.bU;have Y:=Z.start w0;refine bA an Tryz.func58 ?_;refine db ?_;intro G w Y;have Y:Z w0 w [ak G 26 [a,b,c,d]]:=Y;refine aL rfl (tC (B.at Y)) ?_;refine gZ ?_;clear Y;intro w' Y;rw[F,fK rfl];refine O ?_;refine aL rfl (Wj (a:=A)) ?_;rintro _ w' ⟨m,rfl,al⟩;refine aI ?_;clear al Y;intro Y;rw[D.et]at Y;refine O ?_;refine aL rfl (Wg (Cu (i:=0) Y rfl rfl) (D.at Y) U) ?_;rintro _ w' ⟨u,rfl,al⟩;refine aI ?_;clear al Y;intro Y;rw[We]at Y;have H:=B.1;refine O ?_;refine aL rfl (OU (n:=t.vars.length) U) ?_;rintro _ w' ⟨V,rfl,al⟩;refine aI ?_;clear al Y;intro Y;refine O ?_;refine aL rfl (Dz (bk (s:=u) Y) (bk (s:=V) Y)) ?_;rintro _ w' ⟨⟨eq,rfl,heq⟩,al⟩;refine aA ?_;clear al Y;intro Y;have heq:=heq.2 rfl;subst heq;refine O ?_;refine aL rfl (ns (H.at Y) U) ?_;rintro _ w' ⟨l,rfl,al⟩;refine aI ?_;clear al Y;intro Y;have N:=(bk (s:=l) Y).one;refine O ?_;refine lw (parts:=[(0,.tmp 31),(3,.const (.bool true))]) (vs:=[(0,l),(3,.bool true)]) rfl rfl (by simp only[eD,eN,N];rfl) ?_;obtain⟨K,P⟩:∃ K:Nat,(K:Int)=lh M':=⟨(lh M').toNat,by unfold lh;omega⟩
 have x:1<=K/\K<=4096:=by unfold lh at P;omega
 have Q:(if (if 4096<M' then 4096 else M')>1 then (if 4096<M' then 4096 else M') else 1)=(K:Int):=by rw[P];unfold lh;split<;>split<;>omega
 refine db ?_;intro p w Y;rw[Q];obtain⟨y,rfl⟩:=À p;have Y:Z w0 w [ak y 164 [l,nS,nS,.bool true],X W 3 l t.vars,X W 3 V (c9 t.vars.length),X W 3 u (c9 t.vars.length),ak m 22 [A],ak G 26 [a,b,c,d]]:=Y;have z:Z w0 w (ak y 164 [l,nS,nS,.bool true]::X W 3 l t.vars::[ak G 26 [a,b,c,d]]):=Y.aY;refine aL rfl (Wk (M':=K) z hT I B D x.1 x.2) ?_;clear Y z;rintro _ w ⟨cv,ce,cg,u,ms,ex,rfl,R,Y⟩;refine⟨_,rfl,?_⟩;rw[P]at R Y ⊢;obtain⟨g,o⟩:=À (lz t (lh M') t.vars.length);have hS:rk t M'=g.eJ:=by unfold rk;rw[<-o]
 have hD:tW t M'=mW g.eG:=by unfold tW;rw[<-o]
 rw[<-o]at R Y ⊢;have oX:=(Y.ct 3 rfl).mi;unfold cM;by_cases he:g.vC=0;rotate_left
 ·have q:eM t M'=g.vC:=by unfold eM;rw[<-o,aM he]
  rw[cS he];refine db ?_;intro p w Y;exact cR (v:=.pointer none) (v':=bI g.vC) rfl (by rfl) (by rw[cS he];rfl) (.inl ⟨by rw[q];exact he,by rw[q],Y.aY⟩)
 rw[fK he];refine db ?_;intro p w Y;refine aL rfl (Wl (S:=g.eG) (Y.ct 4 rfl)) ?_;rintro _ w' ⟨C,rfl,al⟩;refine aI ?_;clear al Y;intro Y;have od:=(bk (s:=C) Y).one;by_cases hv:iT g.eG=true;rotate_left
 ·have f:¬dR g.eG:=fun h=>hv (Cv h)
  have q:eM t M'=2:=by unfold eM;rw[<-o,aC (fun h=>h he),aC f]
  have r:iH g.eG=2:=by unfold iH;rw[aC hv]
  rw[r,cS (show (2:Int)≠0 by decide)];refine iE ?_;intro w Y;exact cR (v:=.pointer none) (v':=bI 2) rfl (by rfl) (by rw[cS (show (2:Int)≠0 by decide)];rfl) (.inl ⟨by rw[q];decide,by rw[q],Y.aY⟩)
 have f:dR g.eG:=nr fun h=>by rw[we h]at hv;cases hv
 have q:eM t M'=0:=by unfold eM;rw[<-o,aC (fun h=>h he),aM f]
 have r:iH g.eG=0:=by unfold iH;rw[aM hv]
 have T:tX g.eG=mW g.eG:=by unfold tX;rw[aM hv]
 rw[r,fK rfl];rw[T]at Y;refine iE ?_;intro w Y;simp only[mM,mI]at Y;refine cR (v:=.pointer (some y)) (v':=.nilIface) rfl rfl rfl (.inr ⟨q,?_,y,rfl,?_⟩)
 ·rw[hS,hD]
  have P':=Wh f;have R':=f.1;by_cases h0:t.vars.length=0
  ·have j:g.eJ=[]:=by rw[o,h0];rfl
   rw[j];exact⟨fun k hk=>absurd hk sm,fun s _=>⟨dt _,by show (0:Int)<_;omega⟩⟩
  have j:=R he U;exact⟨fun _ _=>⟨_,j.ch⟩,fun s hs=>by have:=j.ch.at hs;omega⟩
 rw[hS,hD];have h1:Z w0 w (ak y 164 [l,u,C,.bool ex]::X W 3 l t.vars::X fo 201 u ms::aZ (ko ms g.eJ)::X W 3 C (mW g.eG)::[]):=Y.aY;exact Z.rd (Δ:=[_,_,_,_,_]) (fun _ _ h=>⟨l,u,C,_,ms,fun j v hv=>lK (i:=0) h rfl hv,h.rs 1 rfl,h.rs 2 rfl,h.ct 3 rfl,h.rs 4 rfl⟩) h1
def DA (f:RS aq w0 a xs)(k:xs.length<=1099511627776) :
  Calls ai 73 #[a] w0 fun e w'=>∃ s,e=.returned s/\Z w0 w' [X aq 63 s xs]:=by
 have Y:=Z.start w0;obtain⟨g,cap,i⟩:=f.shape;subst i;refine bA an Tryz.func73 ?_;refine O ?_;refine eY rfl (Gj (a:=g) (n:=xs.length) (c:=cap) rfl) ?_
 cases g with
 | none =>
  have j:xs=[]:=by
   rcases uH xs.length with h|h
   ·exact n0 h
   obtain⟨p,c2,he,_⟩:=f.some dc h;cases he
  subst j;refine O ?_
  exact bf (v:=nS) rfl rfl ⟨_,rfl,Y.nil⟩
 | some p =>
  refine O ?_;refine A8 aq Y ?_;clear Y;intro s1 w Y;refine l7 ?_;intro s w Y;rw[kL]at Y;exact bf (v:=s) rfl rfl ⟨_,rfl,Y⟩
def Wm {xs:List jQ}(f:RS aV w0 a xs)(l:xs.length<=1099511627776)(j:∀ x∈xs,∀ v∈aV.enc x,v.oneCell'=true) :
  Calls ai 72 #[a] w0 fun e w'=>∃ s,e=.returned s/\Z w0 w' [X aV 61 s xs]:=by
 have Y:=Z.start w0;obtain⟨g,cap,k⟩:=f.shape;subst k;refine bA an Tryz.func72 ?_;refine O ?_;refine eY rfl (Gj (a:=g) (n:=xs.length) (c:=cap) rfl) ?_
 cases g with
 | none =>
  have i:xs=[]:=by
   rcases uH xs.length with h|h
   ·exact n0 h
   obtain⟨p,c2,he,_⟩:=f.some dc h;cases he
  subst i;refine O ?_
  exact bf (v:=nS) rfl rfl ⟨_,rfl,Y.nil⟩
 | some p =>
  refine O ?_;refine A8 aV Y ?_;clear Y;intro s1 w Y;refine O ?_;refine OV ?_ (hone:=j);clear Y;intro s w Y;refine O ?_;rw[kL]at Y;exact bf (v:=s) rfl rfl ⟨_,rfl,Y⟩
def mR (x:Int):Int:=if 65537<x then 65537 else x
def Wn {P k:Int}(i:1<=P)(hk:1<=k)(f:k<=64):0<=mR P*k/\mR P*k<=4194368/\mR (mR P*k)=mR (P*k):=by
 unfold mR;split
 ·rename_i h
  have h1:65537*k<=P*k:=xV U U;refine⟨U,U,?_⟩;by_cases e:k=1
  ·subst e;rw[aC U,aM U];rfl
  rw[aM U,aM U]
 rename_i h;have h1:P*k<=65537*64:=yx U f U U;have g:0<=P*k:=sj U U;exact⟨g,U,rfl⟩
noncomputable def kR (t:aa):Int:=if bM t=0 then mR (bY t.vars) else 0
def NO (j:bn w0 a b c d vs t) :
  Calls ai 43 #[.agg #[a,b,c,d]] w0 fun e w'=>e=.returned (E (kR t))/\Z w0 w' []:=by
 have g:=j;obtain⟨o,z,A,h⟩:=j;have q:=o.bU;have Y:=Z.start w0;refine bA an Tryz.func43 ?_;refine eE ?_;intro r w Y;refine aL rfl (tC (g.at Y)) ?_;rintro _ w' ⟨rfl,al⟩;refine aA ?_;clear al Y;intro Y;by_cases hk:bM t=0
 ·rw[fK hk]
  have I:=(oz t).1 hk;refine O ?_;refine dQ [3,3,5,5,12,20] (G:=Nat) (H:=Int) (fun k n=>[(12,E k),(3,E n)]) (fun k n w=>k<=t.vars.length/\n=mR (bY (t.vars.take k))/\Z w0 w [ak r 26 [a,b,c,d]]) (fun k _=>t.vars.length-k) 0 1 (fun _ _=>rfl) ⟨rfl,rfl,az⟩ ⟨bu _,rfl,Y⟩ ?_;clear Y;rintro B k n w ⟨u,i,Y⟩;refine aB ?_ ?_<;>intro h1
  ·have f:k<t.vars.length:=U
   have h:=I.mN k f;have l:=Wn (P:=bY (t.vars.take k)) (yy fun x hx=>I.pos x (pO hx)) h.1 h.2;rw[<-i]at l;obtain⟨C,D,y⟩:=l;refine O ?_;refine⟨k+1,_,⟨rfl,rfl,az⟩,aU,⟨U,?_,Y⟩,U⟩;rw[eC W.dflt f,yz,<-y];rfl
  refine O ?_;refine bf (v:=E n) rfl rfl ⟨?_,Y.tail⟩;rw[gH U]at i;rw[i,kR,aM hk]
 rw[cS hk];refine O ?_;exact bf (v:=E 0) rfl rfl ⟨by rw[kR,aC hk],Y.tail⟩
noncomputable def kp (t:aa):Int:=if bM t≠0 then bM t else if 65536<bY t.vars then 5 else 0
def Wo (g:bn w0 a b c d vs t) :
  Calls ai 259 #[.agg #[a,b,c,d]] w0 fun e w'=>e=.returned (.tuple #[E (if kp t=0 then bY t.vars else 0),bI (kp t)])/\Z w0 w' []:=by
 have Y:=Z.start w0;refine bA an Tryz.func259 ?_;refine eE ?_;intro p w Y;refine aL rfl (tC (g.at Y)) ?_;rintro _ w' ⟨rfl,al⟩;refine aA ?_;clear al Y;intro Y;by_cases hk:bM t=0
 ·rw[fK hk]
  refine O ?_;refine aL rfl (NO (g.at Y)) ?_;rintro _ w' ⟨rfl,al⟩;refine aA ?_;clear al Y;intro Y;rw[kR,aM hk];by_cases h:bY t.vars<=65536
  ·have he:kp t=0:=by rw[kp,aC (by simp[hk]),aC U]
   rw[show mR (bY t.vars)=bY t.vars by rw[mR,aC U]];refine aB ?_ ?_<;>intro h1
   ·omega
   refine O ?_;rw[he,aM rfl];exact cR (v:=E (bY t.vars)) (v':=bI 0) rfl rfl (by rw[fK rfl];rfl) ⟨rfl,Y.tail⟩
  have he:kp t=5:=by rw[kp,aC (by simp[hk]),aM U]
  have f:mR (bY t.vars)=65537:=by rw[mR];split<;>omega
  rw[f];refine O ?_;rw[he,aC dc];exact cR (v:=E 0) (v':=bI 5) rfl rfl (by rw[cS dc];rfl) ⟨rfl,Y.tail⟩
 rw[cS hk];have he:kp t=bM t:=by rw[kp,aM hk]
 refine O ?_;rw[he,aC hk];exact cR (v:=E 0) (v':=bI (bM t)) rfl rfl (by rw[cS hk];rfl) ⟨rfl,Y.tail⟩
noncomputable def lD (t:aa)(s:J):Int:=if kp t≠0 then kp t else @ite _ (ab t.vars s) (Classical.propDecidable _) 0 2
def UR {sv:Value}{s:J}(q:bn w0 a b c d vs t)(u:RS W w0 sv s) :
  Calls ai 258 #[.agg #[a,b,c,d],sv] w0 fun e w'=>e=.returned (.tuple #[E (if lD t s=0 then fE t.vars s else 0),bI (lD t s)])/\Z w0 w' []:=by
 have j:=q;obtain⟨x,K,N,P⟩:=q;have z:=x.bU;have A:=u.bU;have Y:=Z.start w0;refine bA an Tryz.func258 ?_;refine eE ?_;intro B w Y;refine aL rfl (Wo (j.at Y)) ?_;rintro _ w' ⟨rfl,al⟩;refine aA ?_;clear al Y;intro Y;by_cases hk:kp t=0
 ·rw[fK hk,aM hk]
  have g:bM t=0:=by
   unfold kp at hk;split at hk
   ·exact hk
   rename_i h;simpa using h
  have Q:bY t.vars<=65536:=by
   rw[kp,aC (by simp[g])]at hk;split at hk
   ·cases hk
   omega
  have I:=(oz t).1 g;refine O ?_;refine aL rfl (xR (x.at Y) (u.at Y)) ?_;rintro _ w' ⟨⟨r,rfl,y⟩,al⟩;refine aA ?_;clear al Y;intro Y
  cases r with
  | false =>
   have f:¬ab t.vars s:=fun h=>by have:=y.2 h;cases this
   have he:lD t s=2:=by rw[lD,aC (by simp[hk]),aC f]
   refine O ?_;rw[he,aC dc]
   exact cR (v:=E 0) (v':=bI 2) rfl rfl (by rw[cS dc];rfl) ⟨rfl,Y.tail⟩
  | true =>
   have bL:=y.1 rfl;have C:=bL.1;have he:lD t s=0:=by rw[lD,aC (by simp[hk]),aM bL]
   refine O ?_;refine dQ [8,10,27,41] (G:=Nat) (H:=Int) (fun k n=>[(27,E k),(8,E n)]) (fun k n w=>k<=s.length/\n=fE (t.vars.take k) (s.take k)/\Z w0 w [ak B 26 [a,b,c,d]]) (fun k _=>s.length-k) 0 0 (fun _ _=>rfl) ⟨rfl,rfl,az⟩ ⟨bu _,rfl,Y⟩ ?_;clear Y;rintro R k n w ⟨D,l,Y⟩;refine aB ?_ ?_<;>intro h1
   ·have f:k<s.length:=U
    have o:=Wp bL I.pos f;have i:=OW bL f;have F:=bL.2 k f;rw[<-l]at o i;refine O ?_;exact⟨k+1,_,⟨rfl,rfl,az⟩,aU,⟨U,i.symm,Y⟩,U⟩
   refine O ?_;rw[he,aM rfl];refine cR (v:=E n) (v':=bI 0) rfl rfl (by rw[fK rfl];rfl) ⟨?_,Y.tail⟩;rw[gH U,gH U]at l;rw[l]
 rw[cS hk];have he:lD t s=kp t:=by rw[lD,aM hk]
 refine O ?_;rw[he,aC hk];exact cR (v:=E 0) (v':=bI (kp t)) rfl rfl (by rw[cS hk];rfl) ⟨rfl,Y.tail⟩
def A4 (f:RS aq w0 a xs)(g:xs.length<=1099511627776) :
  Calls ai 48 #[a] w0 fun e w'=>∃ s,e=.returned s/\Z w0 w' [X aq 63 s xs]:=by
 have Y:=Z.start w0;refine bA an Tryz.func48 ?_;refine O ?_;refine aL rfl (DA f g) ?_;rintro _ w' ⟨s,rfl,al⟩;refine aI ?_;clear al Y;intro Y;refine O ?_;exact bf (v:=s) rfl rfl ⟨_,rfl,Y⟩
structure wS (E_:List kP) (us:List jQ) (j:Nat) (es:List jQ):Prop where
 len:es.length=E_.length
 DB:∀ i,i<E_.length->(au aV es i).var=(E_.getD i bE).var/\(au aV es i).val=(E_.getD i bE).val
 OX:∀ i,j<=i->i<E_.length->(au aV es i).bO=(au aV us i).bO
def oJ (E_:List kP)(j:Nat)(es:List jQ)(w:World):Prop:=∀ i,i<j->RS aq w (au aV es i).bO (E_.getD i bE).bO
def JS {α:Type}{T:Ty α}{xs:List α}{i j:Nat}{x:α}(f:j<xs.length):au T (xs.set j x) i=if i=j then x else au T xs i:=by
 rw[nt,nt];by_cases e:i=j
 ·subst e;rw[aM rfl];simp[List.getD,f]
 rw[aC e];simp only[List.getD];rw[tn (fun h=>e h.symm)]
def wS.step {E_:List kP}{us es:List jQ}{j:Nat}(h:wS E_ us j es)(k:j<E_.length){s:Value}:wS E_ us (j+1) (es.set j ⟨s,(au aV es j).var,(au aV es j).val⟩):=by
 have l:=h.len;refine⟨by simp[l],fun i g=>?_,fun i g f=>?_⟩
 ·rw[JS U]
  split
  ·rename_i e;rw[e];exact h.DB j k
  exact h.DB i g
 rw[JS U,aC U];exact h.OX i U f
def oJ.step {E_:List kP}{es:List jQ}{j:Nat}{w:World}(h:oJ E_ j es w)(f:j<es.length){s:Value}{a b:Int}(g:RS aq w s (E_.getD j bE).bO):oJ E_ (j+1) (es.set j ⟨s,a,b⟩) w:=fun i k=>by
 rw[JS f];split
 ·rename_i e;subst e;exact g
 exact h i U
def ke (t:aa)(k:Nat)(ws:List iW)(w:World):Prop:=∀ i,i<k->oG w (au cd ws i) (t.M.getD i bj)
def Wq {α:Type}{T:Ty α}{xs:List α}{x:α}{i:Nat}:au T (xs++[x]) i=if i<xs.length then au T xs i else if i=xs.length then x else T.dflt:=by
 rw[nt,nt];by_cases h:i<xs.length
 ·rw[aM h];simp[iD,iX h]
 rw[aC h];by_cases e:i=xs.length
 ·subst e;rw[aM rfl];simp[iD]
 rw[aC e];simp[iD,kn (DC h),getElem?_cons,show ¬i-xs.length=0 by omega]
def ke.step {t:aa}{k:Nat}{ws:List iW}{w:World}{v:iW}(h:ke t k ws w)(g:ws.length=k)(hv:oG w v (t.M.getD k bj)):ke t (k+1) (ws++[v]) w:=fun i j=>by
 rw[Wq];by_cases e:i<k
 ·rw[aM U];exact h i e
 have f:i=k:=U;rw[aC U,aM U,f];exact hv
def Wr {w:World}{s:Value}{us:List jQ}{E_:List kP}(h:j8 w s us E_):∀ x∈us,∀ v∈aV.enc x,v.oneCell'=true:=fun x hx v hv=>by
 obtain⟨i,e,rfl⟩:=fJ hx;have h1:=(h.dJ i (by have:=h.len;omega)).one;rw[nt,am e]at h1;exact all_eq_true.1 h1 v hv
def iY (t:aa)(a b c:Value)(w:World):Prop:=RS W w a t.vars/\RS W w b t.cC/\RS aq w c t.aH
def Dm (ht:bn w0 a b c d vs t)(I:aG t) :
  Calls ai 46 #[.agg #[a,b,c,d]] w0 fun e w'=>∃ a2 f c2 d2 j,e=.returned (.agg #[a2,f,c2,d2])/\Z w0 w' [aZ fun w=>bn w a2 f c2 d2 j t]:=by
 have _e:=ht;obtain⟨ha,hb,hc,hd⟩:=ht;have _f:=hd.rs;have _g:=hd.len;have _h:=I.M;have _i:=I.vars;have _j:=I.cC.1;have _k:=sd I.aH;have Y:=Z.start w0;refine bA an Tryz.func46 ?_;refine uI ?_;refine tm ?_;refine xU ?_;clear Y;intro y w Y;replace Y:Z w0 w [ak y 26 [a,b,c,d]]:=Y;refine Gk ?_;clear Y;intro u w Y;refine O ?_;refine sh [3,3,7,16] (G:=Addr × Value × Value × Value) (fun g=>[(3,.pointer (some g.1))]) (fun g w=>Z w0 w [ak g.1 26 [g.2.1,g.2.2.1,g.2.2.2,nS],X W 3 g.2.1 t.vars,X W 3 g.2.2.1 t.cC,X aq 63 g.2.2.2 t.aH,ak u 26 [nS,nS,nS,nS],ak y 26 [a,b,c,d]]) (fun _=>rfl) ?_ ?_
 ·refine wu (.s [0,3,6,1,4,7] (.d 2 [4,7] (.d 5 [7] (.d 8 [] (.d 9 [] (.c 10 [1,4,7] (.s [11] (.jE []))) (.d 10 [1,4,7] (.s [9,11] (.jE [])) (.stop))) (.d 10 [1,4,7] (.s [8,9,11] (.jE [])) (.stop))) (.d 10 [1,4,7] (.c 5 [7] (.s [8,9,11] (.jE []))) (.stop))) (.d 10 [1,4,7] (.c 2 [4,7] (.c 5 [7] (.s [8,9,11] (.jE [])))) (.stop)))) Y kr kr ?_;clear Y;intro w Y
  refine O ?_;refine jq ?_ (jq ?_ pZ)
  ·refine O ?_
   refine aL rfl (ns (ha.at Y) U) ?_;rintro _ w' ⟨a2,rfl,al⟩;refine aI ?_;clear al Y;intro Y;refine O ?_;refine jq ?_ (jq ?_ pZ)
   ·refine O ?_
    refine aL rfl (ns (hb.at Y) U) ?_;rintro _ w' ⟨f,rfl,al⟩;refine aI ?_;clear al Y;intro Y;refine O ?_;refine jq ?_ (jq ?_ pZ)
    ·refine O ?_
     refine aL rfl (A4 (hc.at Y) U) ?_;rintro _ w' ⟨c2,rfl,al⟩;refine aI ?_;clear al Y;intro Y;refine O ?_;refine jq ?_ (jq ?_ pZ)
     ·refine O ?_
      have j:=(bk (s:=a2) Y).one;have q:=(bk (s:=f) Y).one;have r:=(bk (s:=c2) Y).one;refine yA (v1:=a2) (v2:=f) (v3:=c2) rfl rfl rfl rfl (by simp only[eD,eN,j,q,r];rfl) ?_;refine db ?_;intro o w Y;refine O ?_;refine jF (n:=4) (p:=o) (vs:=[a2,f,c2,nS]) rfl rfl Y inferInstance rfl rfl (by simp only[eD,eN,j,q,r];rfl) ?_;clear Y;intro w Y;refine O ?_;have l:Z w0 w [ak o 26 [a2,f,c2,nS],X W 3 a2 t.vars,X W 3 f t.cC,X aq 63 c2 t.aH,ak u 26 [nS,nS,nS,nS],ak y 26 [a,b,c,d]]:=Y.aY;exact⟨(o,a2,f,c2),⟨rfl,az⟩,aU,l⟩
     refine db ?_;intro o w Y;refine O ?_;have j:=(bk (s:=a2) Y).one;have q:=(bk (s:=f) Y).one;have r:=(bk (s:=c2) Y).one;refine yA (v1:=a2) (v2:=f) (v3:=c2) rfl rfl rfl rfl (by simp only[eD,eN,j,q,r];rfl) ?_;refine O ?_;refine jF (n:=4) (p:=o) (vs:=[a2,f,c2,nS]) rfl rfl Y inferInstance rfl rfl (by simp only[eD,eN,j,q,r];rfl) ?_;clear Y;intro w Y;refine O ?_;have l:Z w0 w [ak o 26 [a2,f,c2,nS],X W 3 a2 t.vars,X W 3 f t.cC,X aq 63 c2 t.aH,ak u 26 [nS,nS,nS,nS],ak y 26 [a,b,c,d]]:=Y.aY;exact⟨(o,a2,f,c2),⟨rfl,az⟩,aU,l⟩
    refine db ?_;intro o w Y;refine O ?_;refine aL rfl (A4 (hc.at Y) U) ?_;rintro _ w' ⟨c2,rfl,al⟩;refine aI ?_;clear al Y;intro Y;refine O ?_;refine O ?_;have j:=(bk (s:=a2) Y).one;have q:=(bk (s:=f) Y).one;have r:=(bk (s:=c2) Y).one;refine yA (v1:=a2) (v2:=f) (v3:=c2) rfl rfl rfl rfl (by simp only[eD,eN,j,q,r];rfl) ?_;refine O ?_;refine jF (n:=4) (p:=o) (vs:=[a2,f,c2,nS]) rfl rfl Y inferInstance rfl rfl (by simp only[eD,eN,j,q,r];rfl) ?_;clear Y;intro w Y;refine O ?_;have l:Z w0 w [ak o 26 [a2,f,c2,nS],X W 3 a2 t.vars,X W 3 f t.cC,X aq 63 c2 t.aH,ak u 26 [nS,nS,nS,nS],ak y 26 [a,b,c,d]]:=Y.aY;exact⟨(o,a2,f,c2),⟨rfl,az⟩,aU,l⟩
   refine db ?_;intro o w Y;refine O ?_;refine aL rfl (ns (hb.at Y) U) ?_;rintro _ w' ⟨f,rfl,al⟩;refine aI ?_;clear al Y;intro Y;refine O ?_;refine O ?_;refine aL rfl (A4 (hc.at Y) U) ?_;rintro _ w' ⟨c2,rfl,al⟩;refine aI ?_;clear al Y;intro Y;refine O ?_;refine O ?_;have j:=(bk (s:=a2) Y).one;have q:=(bk (s:=f) Y).one;have r:=(bk (s:=c2) Y).one;refine yA (v1:=a2) (v2:=f) (v3:=c2) rfl rfl rfl rfl (by simp only[eD,eN,j,q,r];rfl) ?_;refine O ?_;refine jF (n:=4) (p:=o) (vs:=[a2,f,c2,nS]) rfl rfl Y inferInstance rfl rfl (by simp only[eD,eN,j,q,r];rfl) ?_;clear Y;intro w Y;refine O ?_;have l:Z w0 w [ak o 26 [a2,f,c2,nS],X W 3 a2 t.vars,X W 3 f t.cC,X aq 63 c2 t.aH,ak u 26 [nS,nS,nS,nS],ak y 26 [a,b,c,d]]:=Y.aY;exact⟨(o,a2,f,c2),⟨rfl,az⟩,aU,l⟩
  refine db ?_;intro o w Y;refine O ?_;refine aL rfl (ns (ha.at Y) U) ?_;rintro _ w' ⟨a2,rfl,al⟩;refine aI ?_;clear al Y;intro Y;refine O ?_;refine O ?_;refine aL rfl (ns (hb.at Y) U) ?_;rintro _ w' ⟨f,rfl,al⟩;refine aI ?_;clear al Y;intro Y;refine O ?_;refine O ?_;refine aL rfl (A4 (hc.at Y) U) ?_;rintro _ w' ⟨c2,rfl,al⟩;refine aI ?_;clear al Y;intro Y;refine O ?_;refine O ?_;have j:=(bk (s:=a2) Y).one;have q:=(bk (s:=f) Y).one;have r:=(bk (s:=c2) Y).one;refine yA (v1:=a2) (v2:=f) (v3:=c2) rfl rfl rfl rfl (by simp only[eD,eN,j,q,r];rfl) ?_;refine O ?_;refine jF (n:=4) (p:=o) (vs:=[a2,f,c2,nS]) rfl rfl Y inferInstance rfl rfl (by simp only[eD,eN,j,q,r];rfl) ?_;clear Y;intro w Y;refine O ?_;have l:Z w0 w [ak o 26 [a2,f,c2,nS],X W 3 a2 t.vars,X W 3 f t.cC,X aq 63 c2 t.aH,ak u 26 [nS,nS,nS,nS],ak y 26 [a,b,c,d]]:=Y.aY;exact⟨(o,a2,f,c2),⟨rfl,az⟩,aU,l⟩
 clear Y;rintro _l ⟨o,a2,f,c2⟩ w Y;simp only at Y;have q:Z w0 w [X cd 44 (nS) [],aZ (ke t 0 []),aZ (iY t a2 f c2),ak o 26 [a2,f,c2,nS],ak u 26 [nS,nS,nS,nS],ak y 26 [a,b,c,d]]:=by
  have l:Z w0 w [X W 3 a2 t.vars,X W 3 f t.cC,X aq 63 c2 t.aH,ak o 26 [a2,f,c2,nS],ak u 26 [nS,nS,nS,nS],ak y 26 [a,b,c,d]]:=Y.aY;have P:=Z.rd (Δ:=[X W 3 a2 t.vars,X W 3 f t.cC,X aq 63 c2 t.aH]) (φ:=iY t a2 f c2) (fun _ w h=>⟨h.rs 0 rfl,h.rs 1 rfl,h.rs 2 rfl⟩) l;exact(Z.pR (φ:=ke t 0 []) (fun w i K=>absurd K (dr _)) P).nil
 clear Y;have Y:=q;clear q;refine O ?_;refine nZ [5,6,20,57] (G:=Nat) (H:=Value) (I':=List iW) (fun k _ _=>[(20,E k)]) (fun k r ws w=>k<=t.M.length/\ws.length=k/\Z w0 w [X cd 44 r ws,aZ (ke t k ws),aZ (iY t a2 f c2),ak o 26 [a2,f,c2,r],ak u 26 [nS,nS,nS,nS],ak y 26 [a,b,c,d]]) (fun k _ _=>t.M.length-k) 0 (nS) [] (fun _ _ _=>rfl) ⟨rfl,az⟩ ⟨bu _,rfl,Y⟩ ?_;clear Y;rintro σ k r ws w ⟨hk,Q,Y⟩;refine aB ?_ ?_<;>intro h1
 ·have V:k<t.M.length:=U
  have D:=hd.dJ k V;have _c:=D.one;have j':=D.pre;have hgo:=I.op k V;have _m:=sd hgo.pre;have _n:=hgo.aJ;obtain⟨us,F⟩:=D.aJ;have H':=F.rs;have J':=F.len;refine db ?_;intro N w Y;refine fz (pl [0,1,3,4,2] (.cI 4::pl [6,5,7,8,9] [])) Y kr ?_;clear Y;intro w Y;refine O ?_;refine aL rfl (A4 (j'.at Y) U) ?_;rintro _ w' ⟨B,rfl,al⟩;refine aI ?_;clear al Y;intro Y;refine O ?_;refine aL rfl (Wm (H'.at Y) U (Wr F)) ?_;rintro _ w' ⟨A,rfl,al⟩;refine aI ?_;clear al Y;intro Y;have P':=(bk (s:=B) Y).one;have R':=(bk (s:=A) Y).one;refine O ?_;refine Gl (k:=2) (p:=N) (v:=B) rfl rfl P' Y inferInstance (by rw[cd.ok];decide) ?_;clear Y;intro w Y;refine O ?_;refine Gl (k:=3) (p:=N) (v:=A) rfl rfl R' Y inferInstance (by rw[gY,cd.ok];decide) ?_;clear Y;intro w Y;have q:Z w0 w [aZ (oJ (t.M.getD k bj).aJ 0 us),X aV 61 A us,ak N 44 (cd.enc ⟨(au cd vs k).name,(au cd vs k).aN,B,A⟩),X aq 63 B (t.M.getD k bj).pre,X cd 44 r ws,aZ (ke t k ws),aZ (iY t a2 f c2),ak o 26 [a2,f,c2,r],ak u 26 [nS,nS,nS,nS],ak y 26 [a,b,c,d]]:=by
   have l:Z w0 w [X aV 61 A us,X aq 63 B (t.M.getD k bj).pre,ak N 44 (cd.enc ⟨(au cd vs k).name,(au cd vs k).aN,B,A⟩),X cd 44 r ws,aZ (ke t k ws),aZ (iY t a2 f c2),ak o 26 [a2,f,c2,r],ak u 26 [nS,nS,nS,nS],ak y 26 [a,b,c,d]]:=Y;exact(Z.pR (φ:=oJ (t.M.getD k bj).aJ 0 us) (fun w i K=>absurd K (dr _)) l).aY
  clear Y;have Y:=q;clear q;have _a:wS (t.M.getD k bj).aJ us 0 us:=⟨J',fun i K=>⟨(F.dJ i K).var,(F.dJ i K).val⟩,fun i _ _=>rfl⟩
  refine O ?_;refine dQ [6,6,35,50] (G:=Nat) (H:=List jQ) (fun j _=>[(35,E j)]) (fun j es w=>j<=(t.M.getD k bj).aJ.length/\wS (t.M.getD k bj).aJ us j es/\Z w0 w [aZ (oJ (t.M.getD k bj).aJ j es),X aV 61 A es,ak N 44 (cd.enc ⟨(au cd vs k).name,(au cd vs k).aN,B,A⟩),X aq 63 B (t.M.getD k bj).pre,X cd 44 r ws,aZ (ke t k ws),aZ (iY t a2 f c2),ak o 26 [a2,f,c2,r],ak u 26 [nS,nS,nS,nS],ak y 26 [a,b,c,d]]) (fun j _=>(t.M.getD k bj).aJ.length-j) 0 us (fun _ _=>rfl) ⟨rfl,az⟩ ⟨bu _,_a,Y⟩ ?_;clear Y;rintro _o j es w ⟨hj,R,Y⟩;have _d:=R.len;refine aB ?_ ?_<;>intro h2
  ·have z:j<(t.M.getD k bj).aJ.length:=U
   have T':=F.dJ j z;have _p:=R.DB j z;have V':=R.OX j (cD _) z;have _q:=sd (hgo.ff j z).1;have S:RS aq w0 (au aV es j).bO ((t.M.getD k bj).aJ.getD j bE).bO:=by rw[V'];exact T'.bO
   refine O ?_;refine fz (pl [0,1,2,3,4,5,6,7,8,9] (.cI 1::pl [10,11,12] [])) Y kr ?_;clear Y;intro w Y;refine O ?_;refine aL rfl (A4 (S.at Y) U) ?_;rintro _ w' ⟨C,rfl,al⟩;refine aI ?_;clear al Y;intro Y;have _b:=(bk (s:=C) Y).one;refine O ?_;refine Ws (T:=aV) (s:=A) (j:=j) (k:=0) (v:=C) (x':=⟨C,(au aV es j).var,(au aV es j).val⟩) rfl rfl _b Y inferInstance U (fe _) (by rw[<-nt];rfl) ?_;clear Y;intro w Y;have q:Z w0 w [aZ (oJ (t.M.getD k bj).aJ (j+1) (es.set j ⟨C,(au aV es j).var,(au aV es j).val⟩)),X aV 61 A (es.set j ⟨C,(au aV es j).var,(au aV es j).val⟩),ak N 44 (cd.enc ⟨(au cd vs k).name,(au cd vs k).aN,B,A⟩),X aq 63 B (t.M.getD k bj).pre,X cd 44 r ws,aZ (ke t k ws),aZ (iY t a2 f c2),ak o 26 [a2,f,c2,r],ak u 26 [nS,nS,nS,nS],ak y 26 [a,b,c,d]]:=by
    have l:Z w0 w [X aq 63 C ((t.M.getD k bj).aJ.getD j bE).bO,aZ (oJ (t.M.getD k bj).aJ j es),X aV 61 A (es.set j ⟨C,(au aV es j).var,(au aV es j).val⟩),ak N 44 (cd.enc ⟨(au cd vs k).name,(au cd vs k).aN,B,A⟩),X aq 63 B (t.M.getD k bj).pre,X cd 44 r ws,aZ (ke t k ws),aZ (iY t a2 f c2),ak o 26 [a2,f,c2,r],ak u 26 [nS,nS,nS,nS],ak y 26 [a,b,c,d]]:=Y;exact Z.Bh (χ:=oJ (t.M.getD k bj).aJ (j+1) (es.set j ⟨C,(au aV es j).var,(au aV es j).val⟩)) (fun w h1 h2=>h2.step U h1) (Z.rd (Δ:=[X aq 63 C ((t.M.getD k bj).aJ.getD j bE).bO]) (φ:=fun w=>RS aq w C ((t.M.getD k bj).aJ.getD j bE).bO) (fun _ _ h=>h.rs 0 rfl) l)
   refine O ?_;exact⟨j+1,_,⟨rfl,az⟩,aU,⟨U,R.step z,q⟩,U⟩
  have _b:j=(t.M.getD k bj).aJ.length:=U;subst _b;obtain⟨z,S⟩:∃ z:iW,z=⟨(au cd vs k).name,(au cd vs k).aN,B,A⟩:=⟨_,rfl⟩
  rw[<-S]at Y;have T':∀ v∈cd.enc z,v.oneCell'=true:=by
   rw[S];intro v hv;simp only[cd,ee,fI,pP]at hv;rcases hv with rfl|rfl|rfl|rfl
   ·rfl
   ·rfl
   ·exact P'
   exact R'
  have q:Z w0 w [aZ fun w=>oG w z (t.M.getD k bj),ak N 44 (cd.enc z),X cd 44 r ws,aZ (ke t k ws),aZ (iY t a2 f c2),ak o 26 [a2,f,c2,r],ak u 26 [nS,nS,nS,nS],ak y 26 [a,b,c,d]]:=by
   have l:Z w0 w [aZ (oJ (t.M.getD k bj).aJ (t.M.getD k bj).aJ.length es),X aV 61 A es,X aq 63 B (t.M.getD k bj).pre,ak N 44 (cd.enc z),X cd 44 r ws,aZ (ke t k ws),aZ (iY t a2 f c2),ak o 26 [a2,f,c2,r],ak u 26 [nS,nS,nS,nS],ak y 26 [a,b,c,d]]:=Y.aY;refine Z.rd (Δ:=[aZ (oJ (t.M.getD k bj).aJ (t.M.getD k bj).aJ.length es),X aV 61 A es,X aq 63 B (t.M.getD k bj).pre]) (φ:=fun w=>oG w z (t.M.getD k bj)) (fun _ w h=>?_) l;have C:=h.ct 0 rfl;rw[S];exact⟨D.name,D.size,D.aN,h.rs 2 rfl,es,h.rs 1 rfl,R.len,fun i K=>⟨(R.DB i K).1,(R.DB i K).2,C i K⟩⟩
  clear Y;have Y:=q;clear q;refine O ?_;refine jK cd (x1:=z) rfl rfl rfl (fY rfl) (fe _) Y ?_;clear Y;intro bs w Y;refine O ?_;refine q7 (s:=r) (s2:=bs) inferInstance rfl rfl (bk Y) rfl rfl (fun x hx v hv=>by rw[dp.1 hx]at hv;exact T' v hv) (by simp only[length_cons,length_nil];omega) (by unfold bU;simp only[length_cons,length_nil];omega) Y ?_;clear Y;intro C w Y;have V':=(bk (s:=C) Y).one;refine iE ?_;intro w Y;have q:Z w0 w [X cd 44 C (ws++[z]),aZ (ke t (k+1) (ws++[z])),aZ (iY t a2 f c2),ak o 26 [a2,f,c2,C],ak u 26 [nS,nS,nS,nS],ak y 26 [a,b,c,d]]:=by
   have l:Z w0 w [X cd 44 bs [z],aZ fun w=>oG w z (t.M.getD k bj),ak N 44 (cd.enc z),X cd 44 C (ws++[z]),aZ (ke t k ws),aZ (iY t a2 f c2),ak o 26 [a2,f,c2,C],ak u 26 [nS,nS,nS,nS],ak y 26 [a,b,c,d]]:=Y;have P:Z w0 w [aZ fun w=>oG w z (t.M.getD k bj),aZ (ke t k ws),X cd 44 C (ws++[z]),aZ (iY t a2 f c2),ak o 26 [a2,f,c2,C],ak u 26 [nS,nS,nS,nS],ak y 26 [a,b,c,d]]:=l.aY;exact(Z.Bh (χ:=ke t (k+1) (ws++[z])) (fun w h1 h2=>h2.step Q h1) P).swap
  exact⟨k+1,_,_,⟨rfl,az⟩,aU,⟨U,by simp[Q],q⟩,U⟩
 have l:k=t.M.length:=U;subst l;have V':=(bk (s:=r) Y).one
 have q:Z w0 w [aZ fun w=>bn w a2 f c2 r ws t,ak o 26 [a2,f,c2,r],ak u 26 [nS,nS,nS,nS],ak y 26 [a,b,c,d]] :=
  Z.rd (Δ:=[X cd 44 r ws,aZ (ke t t.M.length ws),aZ (iY t a2 f c2)]) (φ:=fun w=>bn w a2 f c2 r ws t) (fun _ w h=>⟨(h.ct 2 rfl).1,(h.ct 2 rfl).2.1,(h.ct 2 rfl).2.2,h.rs 0 rfl,Q,h.ct 1 rfl⟩) Y
 clear Y;have Y:=q;clear q;have j:=Y.ct 0 rfl;have z:=j.vars.one;have A:=j.cC.one;have B:=j.aH.one;refine O ?_;refine jF (n:=4) (p:=u) (vs:=[a2,f,c2,r]) rfl rfl Y inferInstance rfl rfl (by simp only[eD,eN,z,A,B,V'];rfl) ?_;clear Y;intro w Y;refine O ?_;exact Cw (p:=u) (vs:=[a2,f,c2,r]) rfl rfl rfl (Y.gn 2 rfl) ⟨a2,f,c2,r,ws,rfl,Y.aY⟩
end Go.Proofs.YtmapkjoefdgjfaaGreatDoor
